import Derived.Test.YtkamnnkdadfebaaDoorA0
import Derived.Test.YtkamnnkdadfebaaDoorShelf
namespace Go.Proofs.YtkamnnkdadfebaaDoor
open Go.RowKit
attribute [local go_sem high] eq24 eq37



/-- The model's own entry for the difference with a borrow. -/
def subEntry : Array Value → Sem Value := fun args => do
  let (x, y, b) ← Extern.MathBitsCarry.three "Sub64" args
  pure (Extern.MathBitsCarry.pair ((x + Extern.MathBitsCarry.m64 - y - b) % Extern.MathBitsCarry.m64) (if x < y + b then 1 else 0))
theorem run_sub (x y b : Nat) (hb : b ≤ 1) (w : World) : (subEntry #[.int .u64 x, .int .u64 y, .int .u64 b]).run Tryd.prog w =
    .ok (.tuple #[.int .u64 (((x + 18446744073709551616 - y - b) % 18446744073709551616 : Nat) : Int), .int .u64 ((if x < y + b then 1 else 0 : Nat) : Int)]) w := by
  have : b = 0 ∨ b = 1 := by omega
  rcases this with rfl | rfl <;> rfl

/-- What a difference with a borrow is, and what is borrowed. -/
def subD (x y b : Int) : Int := (x - y - b) % 18446744073709551616
def subB (x y b : Int) : Int := if x < y + b then 1 else 0
def addD (x y c : Int) : Int := (x + y + c) % 18446744073709551616
def addC (x y c : Int) : Int := (x + y + c) / 18446744073709551616

theorem sub38 (x y b : Int) (hx : 0 ≤ x) (hy : 0 ≤ y) (hx2 : x ≤ 18446744073709551615) (hy2 : y ≤ 18446744073709551615) (hb : 0 ≤ b) (hb2 : b ≤ 1) (w : World) :
    (callFunc 38 #[.int .u64 x, .int .u64 y, .int .u64 b]).run Tryd.prog w = .ok (.value (.tuple #[.int .u64 (subD x y b), .int .u64 (subB x y b)])) w := by
  obtain ⟨X, rfl⟩ := Int.eq_ofNat_of_zero_le hx
  obtain ⟨Y, rfl⟩ := Int.eq_ofNat_of_zero_le hy
  obtain ⟨C, rfl⟩ := Int.eq_ofNat_of_zero_le hb
  rw [run_callFunc_extern Tryd.func38 (by kernel_rfl) (by kernel_rfl) (by kernel_rfl) (e := subEntry) (by kernel_rfl), run_sub X Y C (by omega)]
  have e1 : (((X + 18446744073709551616 - Y - C) % 18446744073709551616 : Nat) : Int) = subD X Y C := by unfold subD; omega
  have e2 : ((if X < Y + C then 1 else 0 : Nat) : Int) = subB X Y C := by unfold subB; (repeat' split) <;> omega
  rw [e1, e2]
  rfl
theorem add31 (x y c : Int) (hx : 0 ≤ x) (hy : 0 ≤ y) (hc : 0 ≤ c) (hc2 : c ≤ 1) (w : World) :
    (callFunc 31 #[.int .u64 x, .int .u64 y, .int .u64 c]).run Tryd.prog w = .ok (.value (.tuple #[.int .u64 (addD x y c), .int .u64 (addC x y c)])) w := by
  rw [run_callFunc_extern Tryd.func31 (by kernel_rfl) (by kernel_rfl) (by kernel_rfl) (e := add64Entry) (by kernel_rfl), run_add64 x y c hx hy hc hc2]
  rfl

theorem mul30 (x y : Int) (hx : 0 ≤ x) (hy : 0 ≤ y) (hx2 : x ≤ 18446744073709551615) (hy2 : y ≤ 18446744073709551615) (w : World) :
    Calls Tryd.prog 30 #[.int .u64 x, .int .u64 y] w fun e w' => e = .returned (.tuple #[.int .u64 (hiW (x * y)), .int .u64 (loW (x * y))]) ∧ w = w' := by
  obtain ⟨X, rfl⟩ := Int.eq_ofNat_of_zero_le hx
  obtain ⟨Y, rfl⟩ := Int.eq_ofNat_of_zero_le hy
  refine (Tryd.bits_Mul64 X Y (by omega) (by omega) w).mono ?_
  rintro e w' ⟨rfl, rfl⟩
  refine ⟨?_, rfl⟩
  have e1 : hiW ((X : Int) * (Y : Int)) = ((X * Y / 18446744073709551616 : Nat) : Int) := by unfold hiW; rw [← Int.natCast_mul]; omega
  have e2 : loW ((X : Int) * (Y : Int)) = ((X * Y % 18446744073709551616 : Nat) : Int) := by unfold loW; rw [← Int.natCast_mul]; omega
  rw [e1, e2]

set_option maxHeartbeats 1000000 in
set_option maxRecDepth 100000 in
theorem size37 (n : Int) (h1 : -9223372036854775808 ≤ n) (h2 : n ≤ 9223372036854775807) (w : World) :
    Calls Tryd.prog 37 #[.int .i64 n] w fun e w' => e = .returned (.int .u64 (absW n)) ∧ w = w' := by
  rcases Int.lt_or_le n 0 with h | h
  · have H : IntKind.u64.wrap (-IntKind.u64.wrap n) = absW n := by rw [absW_neg h, IntKind.wrap_u64, IntKind.wrap_u64]; omega
    replace H := Lib.hid H
    have t : decide (n < 0) = true := decide_eq_true h
    clear h h1 h2
    go_enter Tryd.func37, Tryd.ntmps37
    go_wp2
    go_ret
    exact ⟨ri H.out, rfl⟩
  · have H : IntKind.u64.wrap n = absW n := by rw [absW_pos h, IntKind.wrap_u64]; omega
    replace H := Lib.hid H
    have t : decide (n < 0) = false := decide_eq_false (by omega)
    clear h h1 h2
    go_enter Tryd.func37, Tryd.ntmps37
    go_wp2
    go_ret
    exact ⟨ri H.out, rfl⟩

set_option maxHeartbeats 1000000 in
set_option maxRecDepth 100000 in
theorem signed32_up (v : Int) (h0 : 0 ≤ v) (h1 : v < 170141183460469231731687303715884105728) (w : World) :
    Calls Tryd.prog 32 #[.int .u64 (hiW v), .int .u64 (loW v), .bool false] w fun e w' => e = .returned (.agg #[.int .i64 (hiW v), .int .u64 (loW v)]) ∧ Below w.heap.size w w' := by
  have H : wrap64 (hiW v) = hiW v := by unfold wrap64 hiW; omega
  clear h0 h1
  generalize hiW v = hv at H ⊢
  generalize loW v = lv
  replace H := Lib.hid H
  go_enter Tryd.func32, Tryd.ntmps32
  go_wp2
  (try simp only [Exit.inBlock, Exit.then])
  refine bodyPost_ret (v := .agg #[.int .i64 (wrap64 hv), .int .u64 lv]) ?_ ?_ ?_
  · simp [results, Tryd.results32, go_sem]
  · rfl
  exact ⟨by rw [H.out], by repeat (first | (with_reducible exact Below.refl _ _) | (with_reducible assumption) | (with_reducible apply bd) | (with_reducible apply ba) | (with_reducible refine bs ?_ (by first | (simp; done) | (simp; omega)) _) | (with_reducible refine bt ?_ ‹_›))⟩

set_option maxHeartbeats 1000000 in
set_option maxRecDepth 100000 in
theorem signed32_down (v : Int) (h0 : 0 ≤ v) (h1 : v ≤ 170141183460469231731687303715884105728) (w : World) :
    Calls Tryd.prog 32 #[.int .u64 (hiW v), .int .u64 (loW v), .bool true] w fun e w' => e = .returned (.agg #[.int .i64 (hiW (-v)), .int .u64 (loW (-v))]) ∧ Below w.heap.size w w' := by
  have b1 := loW_bd v
  have b2 : 0 ≤ hiW v ∧ hiW v ≤ 18446744073709551615 := by unfold hiW; omega
  have b3 : 0 ≤ subB 0 (loW v) 0 ∧ subB 0 (loW v) 0 ≤ 1 := by unfold subB; split <;> omega
  have k1 : ∀ w, (callFunc 38 #[.int .u64 0, .int .u64 (loW v), .int .u64 0]).run Tryd.prog w = .ok (.value (.tuple #[.int .u64 (subD 0 (loW v) 0), .int .u64 (subB 0 (loW v) 0)])) w :=
    fun w => sub38 _ _ _ (by omega) b1.1 (by omega) b1.2 (by omega) (by omega) w
  have k2 : ∀ w, (callFunc 38 #[.int .u64 0, .int .u64 (hiW v), .int .u64 (subB 0 (loW v) 0)]).run Tryd.prog w = .ok (.value (.tuple #[.int .u64 (subD 0 (hiW v) (subB 0 (loW v) 0)), .int .u64 (subB 0 (hiW v) (subB 0 (loW v) 0))])) w :=
    fun w => sub38 _ _ _ (by omega) b2.1 (by omega) b2.2 b3.1 b3.2 w
  have H1 : subD 0 (loW v) 0 = loW (-v) := by unfold subD loW; omega
  have H2 : wrap64 (subD 0 (hiW v) (subB 0 (loW v) 0)) = hiW (-v) := by
    unfold wrap64 subD subB hiW loW; (repeat' split) <;> omega
  clear b1 b2 b3 h0 h1
  generalize subB 0 (hiW v) (subB 0 (loW v) 0) = z2 at *
  generalize subD 0 (hiW v) (subB 0 (loW v) 0) = z1 at *
  generalize subD 0 (loW v) 0 = y1 at *
  generalize subB 0 (loW v) 0 = y2 at *
  generalize hiW (-v) = r1 at *
  generalize loW (-v) = r2 at *
  generalize hiW v = hv at *
  generalize loW v = lv at *
  subst H1
  replace H2 := Lib.hid H2
  go_enter Tryd.func32, Tryd.ntmps32
  go_wp2
  (try simp only [Exit.inBlock, Exit.then])
  refine bodyPost_ret (v := .agg #[.int .i64 (wrap64 z1), .int .u64 y1]) ?_ ?_ ?_
  · simp [results, Tryd.results32, go_sem]
  · rfl
  exact ⟨by rw [H2.out], by repeat (first | (with_reducible exact Below.refl _ _) | (with_reducible assumption) | (with_reducible apply bd) | (with_reducible apply ba) | (with_reducible refine bs ?_ (by first | (simp; done) | (simp; omega)) _) | (with_reducible refine bt ?_ ‹_›))⟩

theorem absW_bd (n : Int) (h1 : -9223372036854775808 ≤ n) (h2 : n ≤ 9223372036854775807) : 0 ≤ absW n ∧ absW n ≤ 9223372036854775808 := by unfold absW; split <;> omega
theorem prod_bd (x y : Int) (hx : 0 ≤ x) (hx2 : x ≤ 9223372036854775808) (hy : 0 ≤ y) (hy2 : y ≤ 9223372036854775808) : 0 ≤ x * y ∧ x * y ≤ 85070591730234615865843651857942052864 :=
  ⟨Int.mul_nonneg hx hy, by have := Int.mul_le_mul hx2 hy2 hy (by omega); omega⟩
theorem bool_ne (x y : Bool) : (!(x == y)) = (x != y) := by cases x <;> cases y <;> rfl

set_option maxHeartbeats 1000000 in
set_option maxRecDepth 100000 in
theorem mul12 (a b : Int) (a1 : -9223372036854775808 ≤ a) (a2 : a ≤ 9223372036854775807) (b1 : -9223372036854775808 ≤ b) (b2 : b ≤ 9223372036854775807) (w : World) :
    Calls Tryd.prog 12 #[.int .i64 a, .int .i64 b] w fun e w' => e = .returned (.agg #[.int .i64 (hiW (a * b)), .int .u64 (loW (a * b))]) ∧ Below w.heap.size w w' := by
  have c1 := absW_bd a a1 a2
  have c2 := absW_bd b b1 b2
  have c3 := prod_bd _ _ c1.1 c1.2 c2.1 c2.2
  have S1 := Lib.hid (size37 a a1 a2)
  have S2 := Lib.hid (size37 b b1 b2)
  have M := Lib.hid (mul30 (absW a) (absW b) c1.1 c2.1 (by omega) (by omega))
  have U := Lib.hid (signed32_up (absW a * absW b) c3.1 (by omega))
  have D := Lib.hid (signed32_down (absW a * absW b) c3.1 (by omega))
  have e1 := absW_mul a b
  rw [e1] at M U D
  clear c1 c2 c3
  rcases Int.lt_or_le a 0 with ha | ha <;> rcases Int.lt_or_le b 0 with hb | hb
  · have e : absW (a * b) = a * b := absW_pos (Int.mul_nonneg_of_nonpos_of_nonpos (by omega) (by omega))
    have ta : decide (a < 0) = true := decide_eq_true ha
    have tb : decide (b < 0) = true := decide_eq_true hb
    rw [e] at M U
    clear D e e1 a1 a2 b1 b2 ha hb
    generalize absW (a * b) = u at *
    generalize absW a = A at *
    generalize absW b = C at *
    generalize a * b = v at *
    have HB := Below.refl w.heap.size w
    go_enter Tryd.func12, Tryd.ntmps12
    go_wp2_with fail
    refine (S1.out _).mono ?_; rintro e w1 ⟨rfl, rfl⟩
    go_wp2_with fail
    refine (S2.out _).mono ?_; rintro e w1 ⟨rfl, rfl⟩
    go_wp2_with fail
    refine (M.out _).mono ?_; rintro e w1 ⟨rfl, rfl⟩
    go_wp2_with fail
    refine (U.out _).mono ?_; rintro e w1 ⟨rfl, hb⟩; (with_reducible (repeat replace hb := undr hb)); obtain ⟨hc, hf, hz⟩ := aft hb; simp at hz
    go_wp2
    (try simp only [Exit.inBlock, Exit.then])
    refine bodyPost_ret (v := .agg #[.int .i64 (hiW v), .int .u64 (loW v)]) ?_ ?_ ?_
    · simp [results, Tryd.results12, go_sem, hc]
    · rfl
    exact ⟨rfl, by repeat (first | (with_reducible exact Below.refl _ _) | (with_reducible assumption) | (with_reducible apply bd) | (with_reducible apply ba) | (with_reducible refine bs ?_ (by first | (simp; done) | (simp; omega)) _) | (with_reducible refine bt ?_ ‹_›))⟩
  · have e : -absW (a * b) = a * b := by
      have := Int.mul_nonpos_of_nonpos_of_nonneg (show a ≤ 0 by omega) hb
      unfold absW; split <;> omega
    have ta : decide (a < 0) = true := decide_eq_true ha
    have tb : decide (b < 0) = false := decide_eq_false (by omega)
    rw [e] at D
    clear U e e1 a1 a2 b1 b2 ha hb
    generalize absW (a * b) = u at *
    generalize absW a = A at *
    generalize absW b = C at *
    generalize a * b = v at *
    have HB := Below.refl w.heap.size w
    go_enter Tryd.func12, Tryd.ntmps12
    go_wp2_with fail
    refine (S1.out _).mono ?_; rintro e w1 ⟨rfl, rfl⟩
    go_wp2_with fail
    refine (S2.out _).mono ?_; rintro e w1 ⟨rfl, rfl⟩
    go_wp2_with fail
    refine (M.out _).mono ?_; rintro e w1 ⟨rfl, rfl⟩
    go_wp2_with fail
    refine (D.out _).mono ?_; rintro e w1 ⟨rfl, hb⟩; (with_reducible (repeat replace hb := undr hb)); obtain ⟨hc, hf, hz⟩ := aft hb; simp at hz
    go_wp2
    (try simp only [Exit.inBlock, Exit.then])
    refine bodyPost_ret (v := .agg #[.int .i64 (hiW v), .int .u64 (loW v)]) ?_ ?_ ?_
    · simp [results, Tryd.results12, go_sem, hc]
    · rfl
    exact ⟨rfl, by repeat (first | (with_reducible exact Below.refl _ _) | (with_reducible assumption) | (with_reducible apply bd) | (with_reducible apply ba) | (with_reducible refine bs ?_ (by first | (simp; done) | (simp; omega)) _) | (with_reducible refine bt ?_ ‹_›))⟩
  · have e : -absW (a * b) = a * b := by
      have := Int.mul_nonpos_of_nonneg_of_nonpos ha (show b ≤ 0 by omega)
      unfold absW; split <;> omega
    have ta : decide (a < 0) = false := decide_eq_false (by omega)
    have tb : decide (b < 0) = true := decide_eq_true hb
    rw [e] at D
    clear U e e1 a1 a2 b1 b2 ha hb
    generalize absW (a * b) = u at *
    generalize absW a = A at *
    generalize absW b = C at *
    generalize a * b = v at *
    have HB := Below.refl w.heap.size w
    go_enter Tryd.func12, Tryd.ntmps12
    go_wp2_with fail
    refine (S1.out _).mono ?_; rintro e w1 ⟨rfl, rfl⟩
    go_wp2_with fail
    refine (S2.out _).mono ?_; rintro e w1 ⟨rfl, rfl⟩
    go_wp2_with fail
    refine (M.out _).mono ?_; rintro e w1 ⟨rfl, rfl⟩
    go_wp2_with fail
    refine (D.out _).mono ?_; rintro e w1 ⟨rfl, hb⟩; (with_reducible (repeat replace hb := undr hb)); obtain ⟨hc, hf, hz⟩ := aft hb; simp at hz
    go_wp2
    (try simp only [Exit.inBlock, Exit.then])
    refine bodyPost_ret (v := .agg #[.int .i64 (hiW v), .int .u64 (loW v)]) ?_ ?_ ?_
    · simp [results, Tryd.results12, go_sem, hc]
    · rfl
    exact ⟨rfl, by repeat (first | (with_reducible exact Below.refl _ _) | (with_reducible assumption) | (with_reducible apply bd) | (with_reducible apply ba) | (with_reducible refine bs ?_ (by first | (simp; done) | (simp; omega)) _) | (with_reducible refine bt ?_ ‹_›))⟩
  · have e : absW (a * b) = a * b := absW_pos (Int.mul_nonneg ha hb)
    have ta : decide (a < 0) = false := decide_eq_false (by omega)
    have tb : decide (b < 0) = false := decide_eq_false (by omega)
    rw [e] at M U
    clear D e e1 a1 a2 b1 b2 ha hb
    generalize absW (a * b) = u at *
    generalize absW a = A at *
    generalize absW b = C at *
    generalize a * b = v at *
    have HB := Below.refl w.heap.size w
    go_enter Tryd.func12, Tryd.ntmps12
    go_wp2_with fail
    refine (S1.out _).mono ?_; rintro e w1 ⟨rfl, rfl⟩
    go_wp2_with fail
    refine (S2.out _).mono ?_; rintro e w1 ⟨rfl, rfl⟩
    go_wp2_with fail
    refine (M.out _).mono ?_; rintro e w1 ⟨rfl, rfl⟩
    go_wp2_with fail
    refine (U.out _).mono ?_; rintro e w1 ⟨rfl, hb⟩; (with_reducible (repeat replace hb := undr hb)); obtain ⟨hc, hf, hz⟩ := aft hb; simp at hz
    go_wp2
    (try simp only [Exit.inBlock, Exit.then])
    refine bodyPost_ret (v := .agg #[.int .i64 (hiW v), .int .u64 (loW v)]) ?_ ?_ ?_
    · simp [results, Tryd.results12, go_sem, hc]
    · rfl
    exact ⟨rfl, by repeat (first | (with_reducible exact Below.refl _ _) | (with_reducible assumption) | (with_reducible apply bd) | (with_reducible apply ba) | (with_reducible refine bs ?_ (by first | (simp; done) | (simp; omega)) _) | (with_reducible refine bt ?_ ‹_›))⟩

end Go.Proofs.YtkamnnkdadfebaaDoor
