import Derived.Test.YtkamnnkdadfebaaDoorB3
import Derived.Test.YtkamnnkdadfebaaDoorC1
namespace Go.Proofs.YtkamnnkdadfebaaDoor
open Go.RowKit

theorem repeatL_one (c : UInt8) : ∀ n, Lib.repeatL [c] n = List.replicate n c
  | 0 => rfl
  | n + 1 => by rw [Lib.repeatL, repeatL_one c n, List.replicate_succ]; rfl

/-- What stands behind the two numerals of a number of two words. -/
theorem zeros35 (n : Nat) (hn : n ≤ 19) (w : World) :
    Calls Tryd.prog 35 #[.string ⟨#[48]⟩, .int .i64 (19 - (n : Int))] w fun e w' => e = .returned (.string ⟨(List.replicate (19 - n) 48).toArray⟩) ∧ Below w.heap.size w w' := by
  have h := Tryd.strings_Repeat ⟨#[48]⟩ (19 - n) w (by omega) (by show 1 * _ ≤ _; omega)
  rw [show ((19 - n : Nat) : Int) = 19 - (n : Int) by omega] at h
  rw [← repeatL_one]
  exact h

/-- The text of a number of 128 bits. -/
theorem text11 (u : Int) (h1 : -170141183460469231731687303715884105728 ≤ u) (h2 : u < 170141183460469231731687303715884105728) (w : World) (htab : Tab w) :
    Calls Tryd.prog 11 #[.agg #[.int .i64 (hiW u), .int .u64 (loW u)]] w fun e w' => e = .returned (.string ⟨(Lib.itoa u).toArray⟩) ∧ Below w.heap.size w w' := by
  obtain ⟨N, hN⟩ : ∃ N : Nat, (N : Int) = if u < 0 then -u else u := ⟨u.natAbs, by split <;> omega⟩
  have hNle : N ≤ 170141183460469231731687303715884105728 := by split at hN <;> omega
  -- the parts of a number of two words
  have big : ¬ N < 18446744073709551616 → ∃ T S Z : List UInt8, Lib.decDigits N = T ++ (Z ++ S) ∧ S.length ≤ 19 ∧ Z.length ≤ 19 ∧ T.length ≤ 20 ∧
      (∀ w, Tab w → Calls Tryd.prog 34 #[.int .u64 ((N : Int) % 10000000000000000000), .int .i64 10] w fun e w' => e = .returned (.string ⟨S.toArray⟩) ∧ Below w.heap.size w w') ∧
      (∀ w, Calls Tryd.prog 35 #[.string ⟨#[48]⟩, .int .i64 (19 - (S.length : Int))] w fun e w' => e = .returned (.string ⟨Z.toArray⟩) ∧ Below w.heap.size w w') ∧
      (∀ w, Tab w → Calls Tryd.prog 34 #[.int .u64 ((N : Int) / 10000000000000000000), .int .i64 10] w fun e w' => e = .returned (.string ⟨T.toArray⟩) ∧ Below w.heap.size w w') ∧
      (∀ w, Calls Tryd.prog 33 #[.int .u64 (hiW N), .int .u64 (loW N), .int .u64 10000000000000000000] w fun e w' => e = .returned (.tuple #[.int .u64 ((N : Int) / 10000000000000000000), .int .u64 ((N : Int) % 10000000000000000000)]) ∧ w = w') := by
    intro hb
    have e := dec_split19 (N / 10000000000000000000) (N % 10000000000000000000) (by omega) (by omega)
    rw [Nat.div_add_mod'] at e
    have l1 := nd_le19 (N % 10000000000000000000) (by omega)
    refine ⟨_, _, _, e, l1, by rw [List.length_replicate]; omega, by rw [Lib.decDigits_length]; exact Lib.nDigits_le20 _ (by omega), fun w ht => ?_, fun w => zeros35 _ l1 w, fun w ht => ?_, fun w => ?_⟩
    · have := fmt34 (N % 10000000000000000000) (by omega) w ht
      rwa [show ((N % 10000000000000000000 : Nat) : Int) = (N : Int) % 10000000000000000000 by omega] at this
    · have := fmt34 (N / 10000000000000000000) (by omega) w ht
      rwa [show ((N / 10000000000000000000 : Nat) : Int) = (N : Int) / 10000000000000000000 by omega] at this
    · have := div33 (hiW N) (loW N) (by unfold hiW; omega) (by unfold hiW; omega) (loW_bd _).1 (loW_bd _).2 w
      rwa [show hiW N * 18446744073709551616 + loW N = (N : Int) by unfold hiW loW; omega] at this
  by_cases hneg : u < 0
  · rw [if_pos hneg] at hN
    obtain rfl : u = -(N : Int) := by omega
    have e5 : loW (-(N : Int)) = loW (340282366920938463463374607431768211456 - N) := by unfold loW; omega
    have e6 : IntKind.u64.wrap (hiW (-(N : Int))) = hiW (340282366920938463463374607431768211456 - N) := by rw [IntKind.wrap_u64]; unfold hiW; omega
    have e7 : loW (-(340282366920938463463374607431768211456 - (N : Int))) = loW N := by unfold loW; omega
    have e8 : IntKind.u64.wrap (wrap64 (hiW (-(340282366920938463463374607431768211456 - (N : Int))))) = hiW N := by rw [IntKind.wrap_u64]; unfold wrap64 hiW; omega
    have k5 : ∀ w, Calls Tryd.prog 32 #[.int .u64 (hiW (340282366920938463463374607431768211456 - (N : Int))), .int .u64 (loW (-(N : Int))), .bool true] w fun e w' => e = .returned (.agg #[.int .i64 (wrap64 (hiW (-(340282366920938463463374607431768211456 - (N : Int))))), .int .u64 (loW N)]) ∧ Below w.heap.size w w' := by
      intro w
      rw [e5, ← e7]
      exact signed32_all _ (by omega) (by omega) w
    have t0 : decide (hiW (-(N : Int)) < 0) = true := decide_eq_true (by unfold hiW; omega)
    rw [Lib.itoa_neg N (by omega)]
    by_cases hb : N < 18446744073709551616
    · have e9 : hiW (N : Int) = 0 := by unfold hiW; omega
      have e10 : loW (N : Int) = N := by unfold loW; omega
      rw [e9] at e8
      refine text11_ns _ _ _ w htab (Lib.decDigits N) (by rw [Lib.decDigits_length]; exact Lib.nDigits_le20 N hb) (fun w ht => ?_) t0 _ e6 _ e8 k5
      rw [e10]; exact fmt34 N hb w ht
    · obtain ⟨T, S, Z, e, l1, l2, l3, k2, k3, k4, k1⟩ := big hb
      rw [e]
      exact text11_nb _ _ _ _ _ _ w htab T S Z (decide_eq_true (by unfold hiW; omega)) (by unfold hiW; omega) (by unfold hiW; omega) (decide_eq_true (by omega)) k1 k2 k3 k4 l1 l2 l3 t0 _ e6 _ e8 k5
  · rw [if_neg hneg] at hN
    subst hN
    have t0 : decide (hiW (N : Int) < 0) = false := decide_eq_false (by unfold hiW; omega)
    rw [Lib.itoa_nonneg]
    by_cases hb : N < 18446744073709551616
    · have e9 : hiW (N : Int) = 0 := by unfold hiW; omega
      have e10 : loW (N : Int) = N := by unfold loW; omega
      refine text11_ps _ _ _ w htab (Lib.decDigits N) (by rw [Lib.decDigits_length]; exact Lib.nDigits_le20 N hb) (fun w ht => ?_) t0 (by rw [e9]; rfl) rfl
      rw [e10]; exact fmt34 N hb w ht
    · obtain ⟨T, S, Z, e, l1, l2, l3, k2, k3, k4, k1⟩ := big hb
      rw [e]
      exact text11_pb _ _ (hiW N) _ _ _ w htab T S Z (decide_eq_true (by unfold hiW; omega)) (by unfold hiW; omega) (by unfold hiW; omega) (decide_eq_true (by omega)) k1 k2 k3 k4 l1 l2 l3 t0 (by rw [IntKind.wrap_u64]; unfold hiW; omega) rfl
end Go.Proofs.YtkamnnkdadfebaaDoor
