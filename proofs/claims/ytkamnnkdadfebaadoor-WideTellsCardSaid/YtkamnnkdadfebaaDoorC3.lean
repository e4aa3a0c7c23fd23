/- What is read is what was written. -/
import Derived.Test.YtkamnnkdadfebaaDoorC1
import Derived.Test.YtkamnnkdadfebaaDoorC2
import Derived.Test.YtkamnnkdadfebaaDoorB6
namespace Go.Proofs.YtkamnnkdadfebaaDoor
open Go.Lib

theorem parseL_append (l m : List UInt8) : ∀ n, parseL (l ++ m) n = (parseL l n).bind (parseL m) := by
  induction l with
  | nil => intro n; rfl
  | cons c l ih =>
    intro n
    simp only [List.cons_append, parseL]
    split
    · exact ih _
    · rfl

theorem digit_toNat (d : Nat) (h : d < 10) : (UInt8.ofNat (48 + d)).toNat = 48 + d := by
  rw [UInt8.toNat_ofNat', Nat.mod_eq_of_lt (by omega)]

theorem parseL_dec (u : Nat) (h : u < 340282366920938463463374607431768211456) : parseL (decDigits u) 0 = some (u : Int) := by
  induction u using Nat.strongRecOn with
  | ind u ih =>
    by_cases hs : u < 10
    · rw [dec_small hs, parseL, digit_toNat u hs, if_pos ⟨by omega, by omega, by omega⟩, parseL]
      congr 1; omega
    · rw [dec_big hs, parseL_append, ih (u / 10) (by omega) (by omega)]
      simp only [Option.bind_some]
      rw [parseL, digit_toNat (u % 10) (by omega), if_pos ⟨by omega, by omega, by omega⟩, parseL]
      congr 1; omega

theorem dec_len (u : Nat) (h : u ≤ 170141183460469231731687303715884105728) : (decDigits u).length ≤ 39 := nd_le 38 u (by omega)
theorem dec_head (u : Nat) : ∃ c l, decDigits u = c :: l ∧ c ≠ 45 := by
  induction u using Nat.strongRecOn with
  | ind u ih =>
    by_cases hs : u < 10
    · refine ⟨_, _, dec_small hs, fun e => ?_⟩
      have := congrArg UInt8.toNat e
      rw [digit_toNat u hs] at this
      simp at this
      omega
    · obtain ⟨c, l, e, hc⟩ := ih (u / 10) (by omega)
      exact ⟨c, l ++ [UInt8.ofNat (48 + u % 10)], by rw [dec_big hs, e]; rfl, hc⟩

theorem trim_dec (u : Nat) : trimPrefix (decDigits u) [45] = decDigits u := by
  obtain ⟨c, l, e, hc⟩ := dec_head u
  rw [e]
  unfold trimPrefix hasPrefix
  rw [if_neg]
  simp [List.isPrefixOf, Ne.symm hc]
theorem trim_neg (l : List UInt8) : trimPrefix (45 :: l) [45] = l := by
  unfold trimPrefix hasPrefix
  simp [List.isPrefixOf]

/-- A number's own text is read as the number. -/
theorem parseW_itoa (u : Int) (hu : fits u = true) : parseW (itoa u) = some u := by
  obtain ⟨h1, h2⟩ := fits_bd hu
  by_cases hn : u < 0
  · obtain ⟨N, rfl⟩ : ∃ N : Nat, u = -(N : Int) := ⟨u.natAbs, by omega⟩
    rw [itoa_neg N (by omega)]
    have hne : ¬ decDigits N = 45 :: decDigits N := fun e => by have := congrArg List.length e; simp at this
    unfold parseW
    rw [trim_neg, if_neg (by have := dec_len N (by omega); omega), parseL_dec N (by omega)]
    simp only [Option.bind_some]
    unfold finP
    rw [if_neg (fun g => g.2.elim hne (fun h => by omega)), if_neg hne, itoa_neg N (by omega), if_pos rfl]
  · obtain ⟨N, rfl⟩ : ∃ N : Nat, u = (N : Int) := ⟨u.toNat, by omega⟩
    rw [itoa_nonneg]
    unfold parseW
    rw [trim_dec, if_neg (by have := dec_len N (by omega); omega), parseL_dec N (by omega)]
    simp only [Option.bind_some]
    unfold finP
    rw [if_neg (by omega), if_pos rfl, itoa_nonneg, if_pos rfl]

theorem parseL_nonneg (l : List UInt8) : ∀ n m : Int, 0 ≤ n → parseL l n = some m → 0 ≤ m := by
  induction l with
  | nil => intro n m h e; rw [parseL] at e; obtain rfl := Option.some.inj e; exact h
  | cons c l ih =>
    intro n m h e
    rw [parseL] at e
    split at e
    · next g => exact ih _ _ (by omega) e
    · cases e

/-- Any text that is read is its number's; and the number fits. -/
theorem parseW_text (s : List UInt8) (v : Int) (h : parseW s = some v) : itoa v = s ∧ fits v = true := by
  unfold parseW at h
  split at h
  · cases h
  · obtain ⟨n, hn, hf⟩ := Option.bind_eq_some_iff.1 h
    have h0 := parseL_nonneg _ _ _ (by omega) hn
    unfold finP at hf
    by_cases g : 170141183460469231731687303715884105728 ≤ n ∧ (trimPrefix s [45] = s ∨ 170141183460469231731687303715884105728 < n)
    · rw [if_pos g] at hf; cases hf
    · rw [if_neg g] at hf
      by_cases e : itoa (if trimPrefix s [45] = s then n else -n) = s
      · rw [if_pos e] at hf
        obtain rfl := Option.some.inj hf
        refine ⟨e, ?_⟩
        by_cases hl : trimPrefix s [45] = s
        · rw [if_pos hl]
          exact fits_yes (by omega) (Int.not_le.1 fun k => g ⟨k, .inl hl⟩)
        · rw [if_neg hl]
          have k : ¬ 170141183460469231731687303715884105728 < n := fun k => g ⟨by omega, .inr k⟩
          exact fits_yes (by omega) (by omega)
      · rw [if_neg e] at hf; cases hf

theorem dec_num (u k : Nat) (h1 : 10 ^ k ≤ u) (h2 : u < 10 ^ (k + 1)) : decDigits u = (List.range (k + 1)).map fun t => dg u (k + 1 - 1 - t) := by
  rw [decDigits_eq, nDigits_unique k u h1 h2]
end Go.Proofs.YtkamnnkdadfebaaDoor
