/- The words of the numbers of 128 bits. -/
import Derived.Test.YtandgbpbabmdfaaMd
import Derived.Laws.Externs
import Derived.Lib.Mul64
import Derived.Laws.Bits64b
namespace Go.Proofs.Ytandgbpbabmdfaa

/-- The words of a number: the high one, the low one. -/
def hiW (v : Int) : Int := v / 18446744073709551616
def loW (v : Int) : Int := v % 18446744073709551616
/-- A number's size. -/
def absW (n : Int) : Int := if n < 0 then -n else n

theorem loW_bd (v : Int) : 0 ≤ loW v ∧ loW v ≤ 18446744073709551615 := by unfold loW; omega
theorem wide_cmp (u v : Int) : or2 (cmpI (hiW u) (hiW v)) (cmpI (loW u) (loW v)) = cmpI u v := by
  unfold hiW loW or2 cmpI
  (repeat' split) <;> omega
theorem absW_pos {n : Int} (h : 0 ≤ n) : absW n = n := by unfold absW; rw [if_neg (by omega)]
theorem absW_neg {n : Int} (h : n < 0) : absW n = -n := by unfold absW; rw [if_pos h]
theorem absW_mul (a b : Int) : absW a * absW b = absW (a * b) := by
  rcases Int.lt_or_le a 0 with ha | ha
  · rw [absW_neg ha]
    rcases Int.lt_or_le b 0 with hb | hb
    · rw [absW_neg hb, absW_pos (Int.mul_nonneg_of_nonpos_of_nonpos (by omega) (by omega)), Int.neg_mul_neg]
    · rw [absW_pos hb]
      by_cases h : b = 0
      · subst h; simp [absW]
      · rw [absW_neg (Int.mul_neg_of_neg_of_pos ha (by omega)), Int.neg_mul]
  · rw [absW_pos ha]
    rcases Int.lt_or_le b 0 with hb | hb
    · rw [absW_neg hb]
      by_cases h : a = 0
      · subst h; simp [absW]
      · rw [absW_neg (Int.mul_neg_of_pos_of_neg (by omega) hb), Int.mul_neg]
    · rw [absW_pos hb, absW_pos (Int.mul_nonneg ha hb)]

end Go.Proofs.Ytandgbpbabmdfaa
