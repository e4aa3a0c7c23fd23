/- Reading a numeral, digit by digit, in two words. -/
import Derived.Test.YtkamnnkdadfebaaDoorA1
import Derived.Lib.ItoaLen
import Derived.Lib.Strings
namespace Go.Proofs.YtkamnnkdadfebaaDoor

/-- Digits read on behind a number; none where one is no digit, or where it takes more than 128 bits. -/
def parseL : List UInt8 → Int → Option Int
  | [], n => some n
  | c :: l, n => if 48 ≤ c.toNat ∧ c.toNat ≤ 57 ∧ n * 10 + (c.toNat - 48) < 340282366920938463463374607431768211456 then parseL l (n * 10 + (c.toNat - 48)) else none

/-- What a number that was read is, with its sign: if its own text is the text. -/
def finP (s l : List UInt8) (n : Int) : Option Int :=
  if 170141183460469231731687303715884105728 ≤ n ∧ (l = s ∨ 170141183460469231731687303715884105728 < n) then none else
  if Lib.itoa (if l = s then n else -n) = s then some (if l = s then n else -n) else none

/-- The number of a text. -/
def parseW (s : List UInt8) : Option Int :=
  if 40 < (Lib.trimPrefix s [45]).length then none else (parseL (Lib.trimPrefix s [45]) 0).bind (finP s (Lib.trimPrefix s [45]))

theorem u8sub (c : Int) : IntKind.u64.wrap (IntKind.u8.wrap (c - 48)) = (c - 48) % 256 := by
  rw [IntKind.wrap_u64, IntKind.wrap_u8]; omega

theorem round_law (n d : Int) (d0 : 0 ≤ d) (d1 : d ≤ 255) :
    addD (loW (loW n * 10)) d 0 = loW (n * 10 + d) ∧
    addD (loW (hiW n * 10)) (hiW (loW n * 10)) (addC (loW (loW n * 10)) d 0) = loW (hiW (n * 10 + d)) ∧
    hiW (hiW n * 10) + addC (loW (hiW n * 10)) (hiW (loW n * 10)) (addC (loW (loW n * 10)) d 0) = (n * 10 + d) / 340282366920938463463374607431768211456 ∧
    0 ≤ addC (loW (loW n * 10)) d 0 ∧ addC (loW (loW n * 10)) d 0 ≤ 1 := by
  unfold addD addC hiW loW
  refine ⟨?_, ?_, ?_, ?_, ?_⟩ <;> omega
end Go.Proofs.YtkamnnkdadfebaaDoor
