import Derived.Test.YtkamnnkdadfebaaDoorA0
import Derived.Test.YtkamnnkdadfebaaDoorShelf
namespace Go.Proofs.YtkamnnkdadfebaaDoor
open Go.RowKit
theorem bl19 : (64 - (Lib.bitLen (10000000000000000000 : Int).toNat : Int)) = 0 := by decide +kernel

theorem maskJ {x : Int} (h1 : 0 ≤ x) (h2 : x ≤ 18446744073709551615) : bits .and .u64 x 4294967295 = x % 4294967296 := by
  obtain ⟨X, rfl⟩ := Int.eq_ofNat_of_zero_le h1
  have h := bits_and_u64_nat X 4294967295 (by omega) (by omega)
  have e : X &&& 4294967295 = X % 4294967296 := Nat.and_two_pow_sub_one_eq_mod X 32
  rw [e] at h
  exact h.trans (by omega)
theorem or0J {x : Int} (h1 : 0 ≤ x) (h2 : x ≤ 18446744073709551615) : bits .or .u64 x 0 = x := by
  obtain ⟨X, rfl⟩ := Int.eq_ofNat_of_zero_le h1
  have h := bits_or_u64_nat X 0 (by omega) (by omega)
  rw [Nat.or_zero] at h
  exact h

set_option maxHeartbeats 1000000 in
set_option maxRecDepth 100000 in
theorem div33 (hi lo : Int) (h1 : 0 < hi) (h2 : hi < 10000000000000000000) (h3 : 0 ≤ lo) (h4 : lo ≤ 18446744073709551615) (w : World) :
    Calls Tryd.prog 33 #[.int .u64 hi, .int .u64 lo, .int .u64 10000000000000000000] w fun e w' => e = .returned (.tuple #[.int .u64 ((hi * 18446744073709551616 + lo) / 10000000000000000000), .int .u64 ((hi * 18446744073709551616 + lo) % 10000000000000000000)]) ∧ w = w' := by
  have t1 : (hi == 0) = false := beq_eq_false_iff_ne.mpr (by omega)
  have t2 : decide (10000000000000000000 ≤ hi) = false := decide_eq_false (by omega)
  have e1 : lo / 18446744073709551616 = 0 := by omega
  have e2 : bits .or .u64 hi 0 = hi := or0J (by omega) (by omega)
  have e3 : bits .and .u64 10000000000000000000 4294967295 = 2313682944 := maskJ (by omega) (by omega)
  have e4 : bits .and .u64 lo 4294967295 = lo % 4294967296 := maskJ (by omega) (by omega)
  have e5 : IntKind.u64.wrap (hi.tdiv 2328306436) = hi / 2328306436 := by
    rw [Int.tdiv_eq_ediv_of_nonneg (by omega), IntKind.wrap_u64]; omega
  have e6 : IntKind.u64.wrap (hi / 2328306436 * 2328306436) = hi / 2328306436 * 2328306436 := by rw [IntKind.wrap_u64]; omega
  have e7 : IntKind.u64.wrap (hi - hi / 2328306436 * 2328306436) = hi - hi / 2328306436 * 2328306436 := by rw [IntKind.wrap_u64]; omega
  obtain ⟨Q, g0, g1, g2⟩ : ∃ Q : Int, 0 ≤ Q ∧ Q * 10000000000000000000 ≤ hi * 4294967296 + lo / 4294967296 ∧ hi * 4294967296 + lo / 4294967296 < Q * 10000000000000000000 + 10000000000000000000 :=
    ⟨(hi * 4294967296 + lo / 4294967296) / 10000000000000000000, by omega, by omega, by omega⟩
  obtain ⟨Q, g0, g1, g2⟩ : ∃ Q : Int, 0 ≤ Q ∧ Q * 10000000000000000000 ≤ hi * 4294967296 + lo / 4294967296 ∧ hi * 4294967296 + lo / 4294967296 < Q * 10000000000000000000 + 10000000000000000000 :=
    ⟨(hi * 4294967296 + lo / 4294967296) / 10000000000000000000, by omega, by omega, by omega⟩
  obtain ⟨R, hR1, hR2⟩ : ∃ R : Int, R ≤ hi * 4294967296 + lo / 4294967296 - Q * 10000000000000000000 ∧ hi * 4294967296 + lo / 4294967296 - Q * 10000000000000000000 ≤ R := ⟨_, Int.le_refl _, Int.le_refl _⟩
  obtain ⟨Q', i0, i1, i2⟩ : ∃ Q' : Int, 0 ≤ Q' ∧ Q' * 10000000000000000000 ≤ R * 4294967296 + lo % 4294967296 ∧ R * 4294967296 + lo % 4294967296 < Q' * 10000000000000000000 + 10000000000000000000 :=
    ⟨(R * 4294967296 + lo % 4294967296) / 10000000000000000000, by omega, by omega, by omega⟩
  have q1 : Q * 4294967296 + Q' = (hi * 18446744073709551616 + lo) / 10000000000000000000 := by omega
  have q2 : IntKind.u64.wrap (IntKind.u64.wrap (IntKind.u64.wrap (R * 4294967296) + lo % 4294967296) - IntKind.u64.wrap (Q' * 10000000000000000000)) = (hi * 18446744073709551616 + lo) % 10000000000000000000 := by simp only [IntKind.wrap_u64]; omega
  have K := Lib.hid (And.intro q1 q2)
  clear q1 q2
  go_enter Tryd.func33, Tryd.ntmps33
  go_wp2_with (go_at_call 46; refine (Tryd.bits_LeadingZeros64 _ _ (by omega) (by omega)).mono ?_; rw [bl19]; rintro e w' ⟨rfl, rfl⟩)
  clear e1 e2 e3 e4 e5 e6 e7
  go_loop [15, 16] (fun a b => ∃ q r : Int, a = .int .u64 q ∧ b = .int .u64 r ∧ Q ≤ q ∧ q ≤ 4294967297 ∧ r = hi - q * 2328306436 ∧ 0 ≤ r ∧ r < 4294967296) (fun a _ => (intOf a).toNat)
  case atStart => exact ⟨_, _, rfl, rfl, by omega, by omega, rfl, by omega, by omega⟩
  case round =>
    obtain ⟨q, r, rfl, rfl, h5, h6, h7, h8, h9⟩ := hrel
    go_wp2
    case roundEnd => exact ⟨⟨_, _, rfl, rfl, by omega, by omega, by omega, by omega, by omega⟩, by simp only [intOf]; omega⟩
    case roundEnd => exact ⟨⟨_, _, rfl, rfl, by omega, by omega, by omega, by omega, by omega⟩, by simp only [intOf]; omega⟩
    rotate_left
    · obtain rfl : q = Q := by omega
      (try simp only [Int.add_sub_cancel])
      have f1 : IntKind.u64.wrap (IntKind.u64.wrap (IntKind.u64.wrap (hi * 4294967296) + lo / 4294967296) - IntKind.u64.wrap (q * 10000000000000000000)) = R := by
        simp only [IntKind.wrap_u64]; omega
      have f2 : IntKind.u64.wrap (R.tdiv 2328306436) = R / 2328306436 := by
        rw [Int.tdiv_eq_ediv_of_nonneg (by omega), IntKind.wrap_u64]; omega
      have f3 : IntKind.u64.wrap (R / 2328306436 * 2328306436) = R / 2328306436 * 2328306436 := by rw [IntKind.wrap_u64]; omega
      have f4 : IntKind.u64.wrap (R - R / 2328306436 * 2328306436) = R - R / 2328306436 * 2328306436 := by rw [IntKind.wrap_u64]; omega
      simp only [f1, f2, f3, f4]
      clear f1 f2 f3 f4
      go_loop [18, 16] (fun a b => ∃ q' r : Int, a = .int .u64 q' ∧ b = .int .u64 r ∧ Q' ≤ q' ∧ q' ≤ 4294967297 ∧ r = R - q' * 2328306436 ∧ 0 ≤ r ∧ r < 4294967296) (fun a _ => (intOf a).toNat)
      case atStart => exact ⟨_, _, rfl, rfl, by omega, by omega, rfl, by omega, by omega⟩
      case round =>
        obtain ⟨p, r', rfl, rfl, j5, j6, j7, j8, j9⟩ := hrel
        go_wp2
        all_goals first
          | exact ⟨⟨_, _, rfl, rfl, by omega, by omega, by omega, by omega, by omega⟩, by simp only [intOf]; omega⟩
          | (obtain rfl : p = Q' := by omega
             obtain ⟨k1, k2⟩ := K.out
             simp only [k1, k2]
             go_ret2
             exact ⟨rfl, rfl⟩)
          | (obtain rfl : p = Q' + 1 := by omega
             obtain ⟨k1, k2⟩ := K.out
             simp only [Int.add_sub_cancel, k1, k2]
             go_ret2
             exact ⟨rfl, rfl⟩)
    · obtain rfl : q = Q + 1 := by omega
      (try simp only [Int.add_sub_cancel])
      have f1 : IntKind.u64.wrap (IntKind.u64.wrap (IntKind.u64.wrap (hi * 4294967296) + lo / 4294967296) - IntKind.u64.wrap (Q * 10000000000000000000)) = R := by
        simp only [IntKind.wrap_u64]; omega
      have f2 : IntKind.u64.wrap (R.tdiv 2328306436) = R / 2328306436 := by
        rw [Int.tdiv_eq_ediv_of_nonneg (by omega), IntKind.wrap_u64]; omega
      have f3 : IntKind.u64.wrap (R / 2328306436 * 2328306436) = R / 2328306436 * 2328306436 := by rw [IntKind.wrap_u64]; omega
      have f4 : IntKind.u64.wrap (R - R / 2328306436 * 2328306436) = R - R / 2328306436 * 2328306436 := by rw [IntKind.wrap_u64]; omega
      simp only [f1, f2, f3, f4]
      clear f1 f2 f3 f4
      go_loop [18, 16] (fun a b => ∃ q' r : Int, a = .int .u64 q' ∧ b = .int .u64 r ∧ Q' ≤ q' ∧ q' ≤ 4294967297 ∧ r = R - q' * 2328306436 ∧ 0 ≤ r ∧ r < 4294967296) (fun a _ => (intOf a).toNat)
      case atStart => exact ⟨_, _, rfl, rfl, by omega, by omega, rfl, by omega, by omega⟩
      case round =>
        obtain ⟨p, r', rfl, rfl, j5, j6, j7, j8, j9⟩ := hrel
        go_wp2
        all_goals first
          | exact ⟨⟨_, _, rfl, rfl, by omega, by omega, by omega, by omega, by omega⟩, by simp only [intOf]; omega⟩
          | (obtain rfl : p = Q' := by omega
             obtain ⟨k1, k2⟩ := K.out
             simp only [k1, k2]
             go_ret2
             exact ⟨rfl, rfl⟩)
          | (obtain rfl : p = Q' + 1 := by omega
             obtain ⟨k1, k2⟩ := K.out
             simp only [Int.add_sub_cancel, k1, k2]
             go_ret2
             exact ⟨rfl, rfl⟩)
    · obtain rfl : q = Q + 1 := by omega
      (try simp only [Int.add_sub_cancel])
      have f1 : IntKind.u64.wrap (IntKind.u64.wrap (IntKind.u64.wrap (hi * 4294967296) + lo / 4294967296) - IntKind.u64.wrap (Q * 10000000000000000000)) = R := by
        simp only [IntKind.wrap_u64]; omega
      have f2 : IntKind.u64.wrap (R.tdiv 2328306436) = R / 2328306436 := by
        rw [Int.tdiv_eq_ediv_of_nonneg (by omega), IntKind.wrap_u64]; omega
      have f3 : IntKind.u64.wrap (R / 2328306436 * 2328306436) = R / 2328306436 * 2328306436 := by rw [IntKind.wrap_u64]; omega
      have f4 : IntKind.u64.wrap (R - R / 2328306436 * 2328306436) = R - R / 2328306436 * 2328306436 := by rw [IntKind.wrap_u64]; omega
      simp only [f1, f2, f3, f4]
      clear f1 f2 f3 f4
      go_loop [18, 16] (fun a b => ∃ q' r : Int, a = .int .u64 q' ∧ b = .int .u64 r ∧ Q' ≤ q' ∧ q' ≤ 4294967297 ∧ r = R - q' * 2328306436 ∧ 0 ≤ r ∧ r < 4294967296) (fun a _ => (intOf a).toNat)
      case atStart => exact ⟨_, _, rfl, rfl, by omega, by omega, rfl, by omega, by omega⟩
      case round =>
        obtain ⟨p, r', rfl, rfl, j5, j6, j7, j8, j9⟩ := hrel
        go_wp2
        all_goals first
          | exact ⟨⟨_, _, rfl, rfl, by omega, by omega, by omega, by omega, by omega⟩, by simp only [intOf]; omega⟩
          | (obtain rfl : p = Q' := by omega
             obtain ⟨k1, k2⟩ := K.out
             simp only [k1, k2]
             go_ret2
             exact ⟨rfl, rfl⟩)
          | (obtain rfl : p = Q' + 1 := by omega
             obtain ⟨k1, k2⟩ := K.out
             simp only [Int.add_sub_cancel, k1, k2]
             go_ret2
             exact ⟨rfl, rfl⟩)
end Go.Proofs.YtkamnnkdadfebaaDoor
