import Derived.Test.YtkamnnkdadfebaaDoorA1
namespace Go.Proofs.YtkamnnkdadfebaaDoor
open Go.RowKit
attribute [local go_sem high] eq24 eq37



theorem wrap64_in {n : Int} (h1 : -9223372036854775808 ≤ n) (h2 : n ≤ 9223372036854775807) : wrap64 n = n := by unfold wrap64; omega
theorem not64 (a : Int) (h1 : -9223372036854775808 ≤ a) (h2 : a ≤ 9223372036854775807) : bits .xor .i64 (-1) a = -1 - a := by
  show IntKind.i64.wrap ((BitVec.ofInt 64 (-1) ^^^ BitVec.ofInt 64 a).toNat : Int) = _
  have e : BitVec.ofInt 64 (-1) = BitVec.allOnes 64 := by decide
  rw [e, BitVec.allOnes_xor, BitVec.toNat_not, BitVec.toNat_ofInt, IntKind.wrap_i64]
  omega
theorem not64u (b : Int) (h1 : 0 ≤ b) (h2 : b ≤ 18446744073709551615) : bits .xor .u64 IntKind.u64.max b = 18446744073709551615 - b := by
  show IntKind.u64.wrap ((BitVec.ofInt 64 IntKind.u64.max ^^^ BitVec.ofInt 64 b).toNat : Int) = _
  have e : BitVec.ofInt 64 IntKind.u64.max = BitVec.allOnes 64 := by decide
  rw [e, BitVec.allOnes_xor, BitVec.toNat_not, BitVec.toNat_ofInt, IntKind.wrap_u64]
  omega

section
theorem maskN (a : Nat) (ha : a < 18446744073709551616) : bits .and .u64 (a : Int) 4294967295 = ((a % 4294967296 : Nat) : Int) := by
  have h := bits_and_u64_nat a 4294967295 ha (by omega)
  have e : a &&& 4294967295 = a % 4294967296 := Nat.and_two_pow_sub_one_eq_mod a 32
  rw [e] at h
  exact h
theorem divN (a : Nat) : (a : Int) / 4294967296 = ((a / 4294967296 : Nat) : Int) := by omega
theorem mulN (a b : Nat) : (a : Int) * (b : Int) = ((a * b : Nat) : Int) := (Int.natCast_mul a b).symm
theorem addN (a b : Nat) : (a : Int) + (b : Int) = ((a + b : Nat) : Int) := (Int.natCast_add a b).symm
theorem wrapN (a : Nat) (ha : a < 18446744073709551616) : IntKind.u64.wrap (a : Int) = (a : Int) := by rw [IntKind.wrap_u64]; omega
theorem wrapM (a : Nat) : IntKind.u64.wrap (a : Int) = ((a % 18446744073709551616 : Nat) : Int) := by rw [IntKind.wrap_u64]; omega
end

set_option maxHeartbeats 4000000 in
set_option maxRecDepth 100000 in
theorem add39_y (a b c d l h : Int) (w : World) (H1 : IntKind.u64.wrap (b + d) = l) (t : decide (l < b) = true) (H2 : wrap64 (wrap64 (a + c) + 1) = h) :
    Calls Tryd.prog 39 #[.agg #[.int .i64 a, .int .u64 b], .agg #[.int .i64 c, .int .u64 d]] w fun e w' => e = .returned (.agg #[.int .i64 h, .int .u64 l]) ∧ Below w.heap.size w w' := by
  have HB := Below.refl w.heap.size w
  go_enter Tryd.func39, Tryd.ntmps39
  go_wp2
  (try simp only [Exit.inBlock, Exit.then])
  refine bodyPost_ret (v := .agg #[.int .i64 h, .int .u64 l]) ?_ ?_ ?_
  · simp [results, Tryd.results39, go_sem]
  · rfl
  exact ⟨rfl, by repeat (first | (with_reducible exact HB) | (with_reducible exact Below.refl _ _) | (with_reducible apply bd) | (with_reducible apply ba) | (with_reducible refine bs ?_ (by first | (simp; done) | (simp; omega)) _))⟩

set_option maxHeartbeats 4000000 in
set_option maxRecDepth 100000 in
theorem add39_n (a b c d l h : Int) (w : World) (H1 : IntKind.u64.wrap (b + d) = l) (t : decide (l < b) = false) (H2 : wrap64 (wrap64 (a + c)) = h) :
    Calls Tryd.prog 39 #[.agg #[.int .i64 a, .int .u64 b], .agg #[.int .i64 c, .int .u64 d]] w fun e w' => e = .returned (.agg #[.int .i64 h, .int .u64 l]) ∧ Below w.heap.size w w' := by
  have HB := Below.refl w.heap.size w
  go_enter Tryd.func39, Tryd.ntmps39
  go_wp2
  (try simp only [Exit.inBlock, Exit.then])
  refine bodyPost_ret (v := .agg #[.int .i64 h, .int .u64 l]) ?_ ?_ ?_
  · simp [results, Tryd.results39, go_sem, H2]
  · rfl
  exact ⟨rfl, by repeat (first | (with_reducible exact HB) | (with_reducible exact Below.refl _ _) | (with_reducible apply bd) | (with_reducible apply ba) | (with_reducible refine bs ?_ (by first | (simp; done) | (simp; omega)) _))⟩

/-- The reference's sum, of words of any two numbers. -/
theorem add39 (u v : Int) (w : World) :
    Calls Tryd.prog 39 #[.agg #[.int .i64 (wrap64 (hiW u)), .int .u64 (loW u)], .agg #[.int .i64 (wrap64 (hiW v)), .int .u64 (loW v)]] w fun e w' => e = .returned (.agg #[.int .i64 (wrap64 (hiW (u + v))), .int .u64 (loW (u + v))]) ∧ Below w.heap.size w w' := by
  have b1 := loW_bd u
  have b2 := loW_bd v
  have H1 : IntKind.u64.wrap (loW u + loW v) = loW (u + v) := by rw [IntKind.wrap_u64]; unfold loW; omega
  by_cases t : loW (u + v) < loW u
  · exact add39_y _ _ _ _ _ _ w H1 (decide_eq_true t) (by unfold wrap64 hiW loW at *; omega)
  · exact add39_n _ _ _ _ _ _ w H1 (decide_eq_false t) (by unfold wrap64 hiW loW at *; omega)

set_option maxHeartbeats 4000000 in
set_option maxRecDepth 100000 in
theorem neg40w (a b a' b' hh l : Int) (w : World) (H1 : bits .xor .i64 (-1) a = a') (H2 : bits .xor .u64 IntKind.u64.max b = b')
    (hs : ∀ w : World, Calls Tryd.prog 39 #[.agg #[.int .i64 a', .int .u64 b'], .agg #[.int .i64 0, .int .u64 1]] w fun e w' => e = .returned (.agg #[.int .i64 hh, .int .u64 l]) ∧ Below w.heap.size w w') :
    Calls Tryd.prog 40 #[.agg #[.int .i64 a, .int .u64 b]] w fun e w' => e = .returned (.agg #[.int .i64 hh, .int .u64 l]) ∧ Below w.heap.size w w' := by
  have HB := Below.refl w.heap.size w
  go_enter Tryd.func40, Tryd.ntmps40
  go_wp2_with fail
  refine (hs _).mono ?_; rintro e w1 ⟨rfl, hb⟩; (with_reducible (repeat replace hb := undr hb)); replace rf0 := cf hb (b := w.heap.size + 1) (o := 0) (by first | exact rz | exact World.block_lt_of_cell? _ _ rc0 | (simp; done) | (simp; omega) | omega) (by go_simp); replace rf1 := cf hb (b := w.heap.size + 1) (o := 1) (by first | exact rz | exact World.block_lt_of_cell? _ _ rc0 | (simp; done) | (simp; omega) | omega) (by go_simp); replace rc0 := ck hb (a := ⟨w.heap.size + 1, 0, none⟩) (v := .int .i64 0) (by go_simp); replace rc1 := ck hb (a := ⟨w.heap.size + 1, 1, none⟩) (v := .int .u64 0) (by go_simp); replace rz : w.heap.size + 1 < w1.heap.size := World.block_lt_of_cell? w1 _ rc0; replace rn : ¬ w.heap.size + 1 = w1.heap.size := Nat.ne_of_lt rz; replace ro : w.heap.size < w1.heap.size := Nat.lt_of_succ_lt rz; replace HB : Below w.heap.size w w1 := bt (by repeat (first | (with_reducible exact HB) | (with_reducible exact Below.refl _ _) | (with_reducible apply bd) | (with_reducible apply ba) | (with_reducible refine bs ?_ (by first | (simp; done) | (simp; omega)) _))) hb; clear hb
  go_wp2
  (try simp only [Exit.inBlock, Exit.then])
  refine bodyPost_ret (v := .agg #[.int .i64 hh, .int .u64 l]) ?_ ?_ ?_
  · simp [results, Tryd.results40, go_sem, rc0, rc1]
  · rfl
  exact ⟨rfl, by repeat (first | (with_reducible exact HB) | (with_reducible exact Below.refl _ _) | (with_reducible apply bd) | (with_reducible apply ba) | (with_reducible refine bs ?_ (by first | (simp; done) | (simp; omega)) _))⟩

/-- The reference's opposite, of words of any number. -/
theorem neg40 (u : Int) (w : World) :
    Calls Tryd.prog 40 #[.agg #[.int .i64 (wrap64 (hiW u)), .int .u64 (loW u)]] w fun e w' => e = .returned (.agg #[.int .i64 (wrap64 (hiW (-u))), .int .u64 (loW (-u))]) ∧ Below w.heap.size w w' := by
  have b1 := loW_bd u
  have hb : -9223372036854775808 ≤ wrap64 (hiW u) ∧ wrap64 (hiW u) ≤ 9223372036854775807 := by unfold wrap64; omega
  have e1 : -1 - wrap64 (hiW u) = wrap64 (hiW (-u - 1)) := by unfold wrap64 hiW; omega
  have e2 : 18446744073709551615 - loW u = loW (-u - 1) := by unfold loW; omega
  refine neg40w _ _ _ _ _ _ w ((not64 _ hb.1 hb.2).trans e1) ((not64u _ b1.1 b1.2).trans e2) (fun w => ?_)
  have := add39 (-u - 1) 1 w
  rw [show -u - 1 + 1 = -u by omega, show wrap64 (hiW 1) = 0 by unfold wrap64 hiW; omega, show loW 1 = 1 by unfold loW; omega] at this
  exact this


set_option maxHeartbeats 4000000 in
set_option maxRecDepth 100000 in
theorem sign22_neg (a b : Int) (w : World) (t1 : decide (a < 0) = true) :
    Calls Tryd.prog 22 #[.agg #[.int .i64 a, .int .u64 b]] w fun e w' => e = .returned (.int .i64 (-1)) ∧ Below w.heap.size w w' := by
  have HB := Below.refl w.heap.size w
  go_enter Tryd.func22, Tryd.ntmps22
  go_wp2
  go_ret
  exact ⟨rfl, by repeat (first | (with_reducible exact HB) | (with_reducible exact Below.refl _ _) | (with_reducible apply bd) | (with_reducible apply ba) | (with_reducible refine bs ?_ (by first | (simp; done) | (simp; omega)) _))⟩

set_option maxHeartbeats 4000000 in
set_option maxRecDepth 100000 in
theorem sign22_zero (a b : Int) (w : World) (t1 : decide (a < 0) = false) (t2 : (a == 0) = true) (t3 : (b == 0) = true) :
    Calls Tryd.prog 22 #[.agg #[.int .i64 a, .int .u64 b]] w fun e w' => e = .returned (.int .i64 (0)) ∧ Below w.heap.size w w' := by
  have HB := Below.refl w.heap.size w
  go_enter Tryd.func22, Tryd.ntmps22
  go_wp2
  go_ret
  exact ⟨rfl, by repeat (first | (with_reducible exact HB) | (with_reducible exact Below.refl _ _) | (with_reducible apply bd) | (with_reducible apply ba) | (with_reducible refine bs ?_ (by first | (simp; done) | (simp; omega)) _))⟩

set_option maxHeartbeats 4000000 in
set_option maxRecDepth 100000 in
theorem sign22_p1 (a b : Int) (w : World) (t1 : decide (a < 0) = false) (t2 : (a == 0) = true) (t3 : (b == 0) = false) :
    Calls Tryd.prog 22 #[.agg #[.int .i64 a, .int .u64 b]] w fun e w' => e = .returned (.int .i64 (1)) ∧ Below w.heap.size w w' := by
  have HB := Below.refl w.heap.size w
  go_enter Tryd.func22, Tryd.ntmps22
  go_wp2
  go_ret
  exact ⟨rfl, by repeat (first | (with_reducible exact HB) | (with_reducible exact Below.refl _ _) | (with_reducible apply bd) | (with_reducible apply ba) | (with_reducible refine bs ?_ (by first | (simp; done) | (simp; omega)) _))⟩

set_option maxHeartbeats 4000000 in
set_option maxRecDepth 100000 in
theorem sign22_p2 (a b : Int) (w : World) (t1 : decide (a < 0) = false) (t2 : (a == 0) = false) :
    Calls Tryd.prog 22 #[.agg #[.int .i64 a, .int .u64 b]] w fun e w' => e = .returned (.int .i64 (1)) ∧ Below w.heap.size w w' := by
  have HB := Below.refl w.heap.size w
  go_enter Tryd.func22, Tryd.ntmps22
  go_wp2
  go_ret
  exact ⟨rfl, by repeat (first | (with_reducible exact HB) | (with_reducible exact Below.refl _ _) | (with_reducible apply bd) | (with_reducible apply ba) | (with_reducible refine bs ?_ (by first | (simp; done) | (simp; omega)) _))⟩

/-- The reference's sign. -/
theorem sign22 (u : Int) (w : World) :
    Calls Tryd.prog 22 #[.agg #[.int .i64 (hiW u), .int .u64 (loW u)]] w fun e w' => e = .returned (.int .i64 (cmpI u 0)) ∧ Below w.heap.size w w' := by
  have b1 := loW_bd u
  by_cases t1 : hiW u < 0
  · rw [cmpI_lt (by unfold hiW at t1; omega)]; exact sign22_neg _ _ w (decide_eq_true t1)
  by_cases t2 : hiW u = 0
  · by_cases t3 : loW u = 0
    · rw [cmpI_eq (by unfold hiW at t2; unfold loW at t3; omega)]; exact sign22_zero _ _ w (decide_eq_false t1) (beq_iff_eq.2 t2) (beq_iff_eq.2 t3)
    · rw [cmpI_gt (by unfold hiW at t2; unfold loW at t3; omega)]; exact sign22_p1 _ _ w (decide_eq_false t1) (beq_iff_eq.2 t2) (beq_eq_false_iff_ne.2 t3)
  · rw [cmpI_gt (by unfold hiW at t1 t2; omega)]; exact sign22_p2 _ _ w (decide_eq_false t1) (beq_eq_false_iff_ne.2 t2)

set_option maxHeartbeats 4000000 in
set_option maxRecDepth 100000 in
theorem mul28_00 (a b x y xl xh yl yh z0 z1 m n mh ml nh nl y0 y1 u0 u1 r0 r1 : Int) (w : World) (ta : decide (a < 0) = false) (tb : decide (b < 0) = false) (hu : IntKind.u64.wrap a = x) (hv : IntKind.u64.wrap b = y)
    (h1 : bits .and .u64 x 4294967295 = xl) (h2 : x / 4294967296 = xh) (h3 : bits .and .u64 y 4294967295 = yl) (h4 : y / 4294967296 = yh)
    (k1 : wrap64 (IntKind.u64.wrap (xh * yh)) = z0) (k2 : IntKind.u64.wrap (xl * yl) = z1) (k3 : IntKind.u64.wrap (xl * yh) = m) (k4 : IntKind.u64.wrap (xh * yl) = n)
    (k5 : wrap64 (m / 4294967296) = mh) (k6 : IntKind.u64.wrap (m * 4294967296) = ml) (k7 : wrap64 (n / 4294967296) = nh) (k8 : IntKind.u64.wrap (n * 4294967296) = nl)
    (c1 : ∀ w : World, Calls Tryd.prog 39 #[.agg #[.int .i64 z0, .int .u64 z1], .agg #[.int .i64 mh, .int .u64 ml]] w fun e w' => e = .returned (.agg #[.int .i64 y0, .int .u64 y1]) ∧ Below w.heap.size w w')
    (c2 : ∀ w : World, Calls Tryd.prog 39 #[.agg #[.int .i64 y0, .int .u64 y1], .agg #[.int .i64 nh, .int .u64 nl]] w fun e w' => e = .returned (.agg #[.int .i64 u0, .int .u64 u1]) ∧ Below w.heap.size w w')
    (c3 : u0 = r0 ∧ u1 = r1) :
    Calls Tryd.prog 28 #[.int .i64 a, .int .i64 b] w fun e w' => e = .returned (.agg #[.int .i64 r0, .int .u64 r1]) ∧ Below w.heap.size w w' := by
  have HB := Below.refl w.heap.size w
  go_enter Tryd.func28, Tryd.ntmps28
  have nezr : ¬ w.heap.size + 1 = w.heap.size := (by omega)
  have nerz : ¬ w.heap.size = w.heap.size + 1 := (by omega)
  go_wp2_with fail
  refine (c1 _).mono ?_; rintro e w1 ⟨rfl, hb⟩; (with_reducible (repeat replace hb := undr hb)); replace zf0 := cf hb (b := w.heap.size + 1) (o := 0) (by first | exact zz | exact World.block_lt_of_cell? _ _ zc0 | (simp; done) | (simp; omega) | omega) (by go_simp); replace zf1 := cf hb (b := w.heap.size + 1) (o := 1) (by first | exact zz | exact World.block_lt_of_cell? _ _ zc0 | (simp; done) | (simp; omega) | omega) (by go_simp); replace rf0 := cf hb (b := w.heap.size) (o := 0) (by first | exact rz | exact World.block_lt_of_cell? _ _ rc0 | (simp; done) | (simp; omega) | omega) (by go_simp); replace rf1 := cf hb (b := w.heap.size) (o := 1) (by first | exact rz | exact World.block_lt_of_cell? _ _ rc0 | (simp; done) | (simp; omega) | omega) (by go_simp); replace zc0 := ck hb (a := ⟨w.heap.size + 1, 0, none⟩) (v := .int .i64 z0) (by go_simp); replace zc1 := ck hb (a := ⟨w.heap.size + 1, 1, none⟩) (v := .int .u64 z1) (by go_simp); replace rc0 := ck hb (a := ⟨w.heap.size, 0, none⟩) (v := .int .i64 0) (by go_simp); replace rc1 := ck hb (a := ⟨w.heap.size, 1, none⟩) (v := .int .u64 0) (by go_simp); replace zz : w.heap.size + 1 < w1.heap.size := World.block_lt_of_cell? w1 _ zc0; replace zn : ¬ w.heap.size + 1 = w1.heap.size := Nat.ne_of_lt zz; replace zo : w.heap.size < w1.heap.size := Nat.lt_of_succ_lt zz; replace rz : w.heap.size < w1.heap.size := World.block_lt_of_cell? w1 _ rc0; replace rn : ¬ w.heap.size = w1.heap.size := Nat.ne_of_lt rz; replace HB : Below w.heap.size w w1 := bt (by repeat (first | (with_reducible exact HB) | (with_reducible exact Below.refl _ _) | (with_reducible apply bd) | (with_reducible apply ba) | (with_reducible refine bs ?_ (by first | (simp; done) | (simp; omega)) _))) hb; clear hb
  go_wp2_with fail
  refine (c2 _).mono ?_; rintro e w2 ⟨rfl, hb⟩; (with_reducible (repeat replace hb := undr hb)); replace zf0 := cf hb (szl (szl (World.block_lt_of_cell? _ _ zc0))) (sf (sf (zf0))); replace zf1 := cf hb (szl (szl (World.block_lt_of_cell? _ _ zc0))) (sf (sf (zf1))); replace rf0 := cf hb (szl (szl (World.block_lt_of_cell? _ _ rc0))) (sf (sf (rf0))); replace rf1 := cf hb (szl (szl (World.block_lt_of_cell? _ _ rc0))) (sf (sf (rf1))); replace zc0 := ck hb (sb (ss (zc0)) (by decide)); replace zc1 := ck hb (ss (sb (zc1) (by decide))); replace rc0 := ck hb (so (so (rc0) nerz) nerz); replace rc1 := ck hb (so (so (rc1) nerz) nerz); replace HB : Below w.heap.size w w2 := bt (by repeat (first | (with_reducible exact HB) | (with_reducible exact Below.refl _ _) | (with_reducible apply bd) | (with_reducible apply ba) | (with_reducible refine bs ?_ (by first | (simp; done) | (simp; omega)) _))) hb; clear hb
  go_wp2_with fail
  go_wp2
  obtain ⟨c3, c4⟩ := c3
  subst c3
  subst c4
  (try simp only [Exit.inBlock, Exit.then])
  refine bodyPost_ret (v := .agg #[.int .i64 u0, .int .u64 u1]) ?_ ?_ ?_
  · simp [results, Tryd.results28, go_sem, rc0, rc1]
  · rfl
  exact ⟨rfl, by repeat (first | (with_reducible exact HB) | (with_reducible exact Below.refl _ _) | (with_reducible apply bd) | (with_reducible apply ba) | (with_reducible refine bs ?_ (by first | (simp; done) | (simp; omega)) _))⟩

set_option maxHeartbeats 4000000 in
set_option maxRecDepth 100000 in
theorem mul28_01 (a b x y xl xh yl yh z0 z1 m n mh ml nh nl y0 y1 u0 u1 r0 r1 : Int) (w : World) (ta : decide (a < 0) = false) (tb : decide (b < 0) = true) (hu : IntKind.u64.wrap a = x) (hv : IntKind.u64.wrap (-IntKind.u64.wrap b) = y)
    (h1 : bits .and .u64 x 4294967295 = xl) (h2 : x / 4294967296 = xh) (h3 : bits .and .u64 y 4294967295 = yl) (h4 : y / 4294967296 = yh)
    (k1 : wrap64 (IntKind.u64.wrap (xh * yh)) = z0) (k2 : IntKind.u64.wrap (xl * yl) = z1) (k3 : IntKind.u64.wrap (xl * yh) = m) (k4 : IntKind.u64.wrap (xh * yl) = n)
    (k5 : wrap64 (m / 4294967296) = mh) (k6 : IntKind.u64.wrap (m * 4294967296) = ml) (k7 : wrap64 (n / 4294967296) = nh) (k8 : IntKind.u64.wrap (n * 4294967296) = nl)
    (c1 : ∀ w : World, Calls Tryd.prog 39 #[.agg #[.int .i64 z0, .int .u64 z1], .agg #[.int .i64 mh, .int .u64 ml]] w fun e w' => e = .returned (.agg #[.int .i64 y0, .int .u64 y1]) ∧ Below w.heap.size w w')
    (c2 : ∀ w : World, Calls Tryd.prog 39 #[.agg #[.int .i64 y0, .int .u64 y1], .agg #[.int .i64 nh, .int .u64 nl]] w fun e w' => e = .returned (.agg #[.int .i64 u0, .int .u64 u1]) ∧ Below w.heap.size w w')
    (c3 : ∀ w : World, Calls Tryd.prog 40 #[.agg #[.int .i64 u0, .int .u64 u1]] w fun e w' => e = .returned (.agg #[.int .i64 r0, .int .u64 r1]) ∧ Below w.heap.size w w') :
    Calls Tryd.prog 28 #[.int .i64 a, .int .i64 b] w fun e w' => e = .returned (.agg #[.int .i64 r0, .int .u64 r1]) ∧ Below w.heap.size w w' := by
  have HB := Below.refl w.heap.size w
  go_enter Tryd.func28, Tryd.ntmps28
  have nezr : ¬ w.heap.size + 1 = w.heap.size := (by omega)
  have nerz : ¬ w.heap.size = w.heap.size + 1 := (by omega)
  go_wp2_with fail
  refine (c1 _).mono ?_; rintro e w1 ⟨rfl, hb⟩; (with_reducible (repeat replace hb := undr hb)); replace zf0 := cf hb (b := w.heap.size + 1) (o := 0) (by first | exact zz | exact World.block_lt_of_cell? _ _ zc0 | (simp; done) | (simp; omega) | omega) (by go_simp); replace zf1 := cf hb (b := w.heap.size + 1) (o := 1) (by first | exact zz | exact World.block_lt_of_cell? _ _ zc0 | (simp; done) | (simp; omega) | omega) (by go_simp); replace rf0 := cf hb (b := w.heap.size) (o := 0) (by first | exact rz | exact World.block_lt_of_cell? _ _ rc0 | (simp; done) | (simp; omega) | omega) (by go_simp); replace rf1 := cf hb (b := w.heap.size) (o := 1) (by first | exact rz | exact World.block_lt_of_cell? _ _ rc0 | (simp; done) | (simp; omega) | omega) (by go_simp); replace zc0 := ck hb (a := ⟨w.heap.size + 1, 0, none⟩) (v := .int .i64 z0) (by go_simp); replace zc1 := ck hb (a := ⟨w.heap.size + 1, 1, none⟩) (v := .int .u64 z1) (by go_simp); replace rc0 := ck hb (a := ⟨w.heap.size, 0, none⟩) (v := .int .i64 0) (by go_simp); replace rc1 := ck hb (a := ⟨w.heap.size, 1, none⟩) (v := .int .u64 0) (by go_simp); replace zz : w.heap.size + 1 < w1.heap.size := World.block_lt_of_cell? w1 _ zc0; replace zn : ¬ w.heap.size + 1 = w1.heap.size := Nat.ne_of_lt zz; replace zo : w.heap.size < w1.heap.size := Nat.lt_of_succ_lt zz; replace rz : w.heap.size < w1.heap.size := World.block_lt_of_cell? w1 _ rc0; replace rn : ¬ w.heap.size = w1.heap.size := Nat.ne_of_lt rz; replace HB : Below w.heap.size w w1 := bt (by repeat (first | (with_reducible exact HB) | (with_reducible exact Below.refl _ _) | (with_reducible apply bd) | (with_reducible apply ba) | (with_reducible refine bs ?_ (by first | (simp; done) | (simp; omega)) _))) hb; clear hb
  go_wp2_with fail
  refine (c2 _).mono ?_; rintro e w2 ⟨rfl, hb⟩; (with_reducible (repeat replace hb := undr hb)); replace zf0 := cf hb (szl (szl (World.block_lt_of_cell? _ _ zc0))) (sf (sf (zf0))); replace zf1 := cf hb (szl (szl (World.block_lt_of_cell? _ _ zc0))) (sf (sf (zf1))); replace rf0 := cf hb (szl (szl (World.block_lt_of_cell? _ _ rc0))) (sf (sf (rf0))); replace rf1 := cf hb (szl (szl (World.block_lt_of_cell? _ _ rc0))) (sf (sf (rf1))); replace zc0 := ck hb (sb (ss (zc0)) (by decide)); replace zc1 := ck hb (ss (sb (zc1) (by decide))); replace rc0 := ck hb (so (so (rc0) nerz) nerz); replace rc1 := ck hb (so (so (rc1) nerz) nerz); replace HB : Below w.heap.size w w2 := bt (by repeat (first | (with_reducible exact HB) | (with_reducible exact Below.refl _ _) | (with_reducible apply bd) | (with_reducible apply ba) | (with_reducible refine bs ?_ (by first | (simp; done) | (simp; omega)) _))) hb; clear hb
  go_wp2_with fail
  refine (c3 _).mono ?_; rintro e w3 ⟨rfl, hb⟩; (with_reducible (repeat replace hb := undr hb)); replace zf0 := cf hb (szl (szl (World.block_lt_of_cell? _ _ zc0))) (sf (sf (zf0))); replace zf1 := cf hb (szl (szl (World.block_lt_of_cell? _ _ zc0))) (sf (sf (zf1))); replace rf0 := cf hb (szl (szl (World.block_lt_of_cell? _ _ rc0))) (sf (sf (rf0))); replace rf1 := cf hb (szl (szl (World.block_lt_of_cell? _ _ rc0))) (sf (sf (rf1))); replace zc0 := ck hb (sb (ss (zc0)) (by decide)); replace zc1 := ck hb (ss (sb (zc1) (by decide))); replace rc0 := ck hb (so (so (rc0) nerz) nerz); replace rc1 := ck hb (so (so (rc1) nerz) nerz); replace HB : Below w.heap.size w w3 := bt (by repeat (first | (with_reducible exact HB) | (with_reducible exact Below.refl _ _) | (with_reducible apply bd) | (with_reducible apply ba) | (with_reducible refine bs ?_ (by first | (simp; done) | (simp; omega)) _))) hb; clear hb
  go_wp2
  (try simp only [Exit.inBlock, Exit.then])
  refine bodyPost_ret (v := .agg #[.int .i64 r0, .int .u64 r1]) ?_ ?_ ?_
  · simp [results, Tryd.results28, go_sem, rc0, rc1]
  · rfl
  exact ⟨rfl, by repeat (first | (with_reducible exact HB) | (with_reducible exact Below.refl _ _) | (with_reducible apply bd) | (with_reducible apply ba) | (with_reducible refine bs ?_ (by first | (simp; done) | (simp; omega)) _))⟩

set_option maxHeartbeats 4000000 in
set_option maxRecDepth 100000 in
theorem mul28_10 (a b x y xl xh yl yh z0 z1 m n mh ml nh nl y0 y1 u0 u1 r0 r1 : Int) (w : World) (ta : decide (a < 0) = true) (tb : decide (b < 0) = false) (hu : IntKind.u64.wrap (-IntKind.u64.wrap a) = x) (hv : IntKind.u64.wrap b = y)
    (h1 : bits .and .u64 x 4294967295 = xl) (h2 : x / 4294967296 = xh) (h3 : bits .and .u64 y 4294967295 = yl) (h4 : y / 4294967296 = yh)
    (k1 : wrap64 (IntKind.u64.wrap (xh * yh)) = z0) (k2 : IntKind.u64.wrap (xl * yl) = z1) (k3 : IntKind.u64.wrap (xl * yh) = m) (k4 : IntKind.u64.wrap (xh * yl) = n)
    (k5 : wrap64 (m / 4294967296) = mh) (k6 : IntKind.u64.wrap (m * 4294967296) = ml) (k7 : wrap64 (n / 4294967296) = nh) (k8 : IntKind.u64.wrap (n * 4294967296) = nl)
    (c1 : ∀ w : World, Calls Tryd.prog 39 #[.agg #[.int .i64 z0, .int .u64 z1], .agg #[.int .i64 mh, .int .u64 ml]] w fun e w' => e = .returned (.agg #[.int .i64 y0, .int .u64 y1]) ∧ Below w.heap.size w w')
    (c2 : ∀ w : World, Calls Tryd.prog 39 #[.agg #[.int .i64 y0, .int .u64 y1], .agg #[.int .i64 nh, .int .u64 nl]] w fun e w' => e = .returned (.agg #[.int .i64 u0, .int .u64 u1]) ∧ Below w.heap.size w w')
    (c3 : ∀ w : World, Calls Tryd.prog 40 #[.agg #[.int .i64 u0, .int .u64 u1]] w fun e w' => e = .returned (.agg #[.int .i64 r0, .int .u64 r1]) ∧ Below w.heap.size w w') :
    Calls Tryd.prog 28 #[.int .i64 a, .int .i64 b] w fun e w' => e = .returned (.agg #[.int .i64 r0, .int .u64 r1]) ∧ Below w.heap.size w w' := by
  have HB := Below.refl w.heap.size w
  go_enter Tryd.func28, Tryd.ntmps28
  have nezr : ¬ w.heap.size + 1 = w.heap.size := (by omega)
  have nerz : ¬ w.heap.size = w.heap.size + 1 := (by omega)
  go_wp2_with fail
  refine (c1 _).mono ?_; rintro e w1 ⟨rfl, hb⟩; (with_reducible (repeat replace hb := undr hb)); replace zf0 := cf hb (b := w.heap.size + 1) (o := 0) (by first | exact zz | exact World.block_lt_of_cell? _ _ zc0 | (simp; done) | (simp; omega) | omega) (by go_simp); replace zf1 := cf hb (b := w.heap.size + 1) (o := 1) (by first | exact zz | exact World.block_lt_of_cell? _ _ zc0 | (simp; done) | (simp; omega) | omega) (by go_simp); replace rf0 := cf hb (b := w.heap.size) (o := 0) (by first | exact rz | exact World.block_lt_of_cell? _ _ rc0 | (simp; done) | (simp; omega) | omega) (by go_simp); replace rf1 := cf hb (b := w.heap.size) (o := 1) (by first | exact rz | exact World.block_lt_of_cell? _ _ rc0 | (simp; done) | (simp; omega) | omega) (by go_simp); replace zc0 := ck hb (a := ⟨w.heap.size + 1, 0, none⟩) (v := .int .i64 z0) (by go_simp); replace zc1 := ck hb (a := ⟨w.heap.size + 1, 1, none⟩) (v := .int .u64 z1) (by go_simp); replace rc0 := ck hb (a := ⟨w.heap.size, 0, none⟩) (v := .int .i64 0) (by go_simp); replace rc1 := ck hb (a := ⟨w.heap.size, 1, none⟩) (v := .int .u64 0) (by go_simp); replace zz : w.heap.size + 1 < w1.heap.size := World.block_lt_of_cell? w1 _ zc0; replace zn : ¬ w.heap.size + 1 = w1.heap.size := Nat.ne_of_lt zz; replace zo : w.heap.size < w1.heap.size := Nat.lt_of_succ_lt zz; replace rz : w.heap.size < w1.heap.size := World.block_lt_of_cell? w1 _ rc0; replace rn : ¬ w.heap.size = w1.heap.size := Nat.ne_of_lt rz; replace HB : Below w.heap.size w w1 := bt (by repeat (first | (with_reducible exact HB) | (with_reducible exact Below.refl _ _) | (with_reducible apply bd) | (with_reducible apply ba) | (with_reducible refine bs ?_ (by first | (simp; done) | (simp; omega)) _))) hb; clear hb
  go_wp2_with fail
  refine (c2 _).mono ?_; rintro e w2 ⟨rfl, hb⟩; (with_reducible (repeat replace hb := undr hb)); replace zf0 := cf hb (szl (szl (World.block_lt_of_cell? _ _ zc0))) (sf (sf (zf0))); replace zf1 := cf hb (szl (szl (World.block_lt_of_cell? _ _ zc0))) (sf (sf (zf1))); replace rf0 := cf hb (szl (szl (World.block_lt_of_cell? _ _ rc0))) (sf (sf (rf0))); replace rf1 := cf hb (szl (szl (World.block_lt_of_cell? _ _ rc0))) (sf (sf (rf1))); replace zc0 := ck hb (sb (ss (zc0)) (by decide)); replace zc1 := ck hb (ss (sb (zc1) (by decide))); replace rc0 := ck hb (so (so (rc0) nerz) nerz); replace rc1 := ck hb (so (so (rc1) nerz) nerz); replace HB : Below w.heap.size w w2 := bt (by repeat (first | (with_reducible exact HB) | (with_reducible exact Below.refl _ _) | (with_reducible apply bd) | (with_reducible apply ba) | (with_reducible refine bs ?_ (by first | (simp; done) | (simp; omega)) _))) hb; clear hb
  go_wp2_with fail
  refine (c3 _).mono ?_; rintro e w3 ⟨rfl, hb⟩; (with_reducible (repeat replace hb := undr hb)); replace zf0 := cf hb (szl (szl (World.block_lt_of_cell? _ _ zc0))) (sf (sf (zf0))); replace zf1 := cf hb (szl (szl (World.block_lt_of_cell? _ _ zc0))) (sf (sf (zf1))); replace rf0 := cf hb (szl (szl (World.block_lt_of_cell? _ _ rc0))) (sf (sf (rf0))); replace rf1 := cf hb (szl (szl (World.block_lt_of_cell? _ _ rc0))) (sf (sf (rf1))); replace zc0 := ck hb (sb (ss (zc0)) (by decide)); replace zc1 := ck hb (ss (sb (zc1) (by decide))); replace rc0 := ck hb (so (so (rc0) nerz) nerz); replace rc1 := ck hb (so (so (rc1) nerz) nerz); replace HB : Below w.heap.size w w3 := bt (by repeat (first | (with_reducible exact HB) | (with_reducible exact Below.refl _ _) | (with_reducible apply bd) | (with_reducible apply ba) | (with_reducible refine bs ?_ (by first | (simp; done) | (simp; omega)) _))) hb; clear hb
  go_wp2
  (try simp only [Exit.inBlock, Exit.then])
  refine bodyPost_ret (v := .agg #[.int .i64 r0, .int .u64 r1]) ?_ ?_ ?_
  · simp [results, Tryd.results28, go_sem, rc0, rc1]
  · rfl
  exact ⟨rfl, by repeat (first | (with_reducible exact HB) | (with_reducible exact Below.refl _ _) | (with_reducible apply bd) | (with_reducible apply ba) | (with_reducible refine bs ?_ (by first | (simp; done) | (simp; omega)) _))⟩

set_option maxHeartbeats 4000000 in
set_option maxRecDepth 100000 in
theorem mul28_11 (a b x y xl xh yl yh z0 z1 m n mh ml nh nl y0 y1 u0 u1 r0 r1 : Int) (w : World) (ta : decide (a < 0) = true) (tb : decide (b < 0) = true) (hu : IntKind.u64.wrap (-IntKind.u64.wrap a) = x) (hv : IntKind.u64.wrap (-IntKind.u64.wrap b) = y)
    (h1 : bits .and .u64 x 4294967295 = xl) (h2 : x / 4294967296 = xh) (h3 : bits .and .u64 y 4294967295 = yl) (h4 : y / 4294967296 = yh)
    (k1 : wrap64 (IntKind.u64.wrap (xh * yh)) = z0) (k2 : IntKind.u64.wrap (xl * yl) = z1) (k3 : IntKind.u64.wrap (xl * yh) = m) (k4 : IntKind.u64.wrap (xh * yl) = n)
    (k5 : wrap64 (m / 4294967296) = mh) (k6 : IntKind.u64.wrap (m * 4294967296) = ml) (k7 : wrap64 (n / 4294967296) = nh) (k8 : IntKind.u64.wrap (n * 4294967296) = nl)
    (c1 : ∀ w : World, Calls Tryd.prog 39 #[.agg #[.int .i64 z0, .int .u64 z1], .agg #[.int .i64 mh, .int .u64 ml]] w fun e w' => e = .returned (.agg #[.int .i64 y0, .int .u64 y1]) ∧ Below w.heap.size w w')
    (c2 : ∀ w : World, Calls Tryd.prog 39 #[.agg #[.int .i64 y0, .int .u64 y1], .agg #[.int .i64 nh, .int .u64 nl]] w fun e w' => e = .returned (.agg #[.int .i64 u0, .int .u64 u1]) ∧ Below w.heap.size w w')
    (c3 : u0 = r0 ∧ u1 = r1) :
    Calls Tryd.prog 28 #[.int .i64 a, .int .i64 b] w fun e w' => e = .returned (.agg #[.int .i64 r0, .int .u64 r1]) ∧ Below w.heap.size w w' := by
  have HB := Below.refl w.heap.size w
  go_enter Tryd.func28, Tryd.ntmps28
  have nezr : ¬ w.heap.size + 1 = w.heap.size := (by omega)
  have nerz : ¬ w.heap.size = w.heap.size + 1 := (by omega)
  go_wp2_with fail
  refine (c1 _).mono ?_; rintro e w1 ⟨rfl, hb⟩; (with_reducible (repeat replace hb := undr hb)); replace zf0 := cf hb (b := w.heap.size + 1) (o := 0) (by first | exact zz | exact World.block_lt_of_cell? _ _ zc0 | (simp; done) | (simp; omega) | omega) (by go_simp); replace zf1 := cf hb (b := w.heap.size + 1) (o := 1) (by first | exact zz | exact World.block_lt_of_cell? _ _ zc0 | (simp; done) | (simp; omega) | omega) (by go_simp); replace rf0 := cf hb (b := w.heap.size) (o := 0) (by first | exact rz | exact World.block_lt_of_cell? _ _ rc0 | (simp; done) | (simp; omega) | omega) (by go_simp); replace rf1 := cf hb (b := w.heap.size) (o := 1) (by first | exact rz | exact World.block_lt_of_cell? _ _ rc0 | (simp; done) | (simp; omega) | omega) (by go_simp); replace zc0 := ck hb (a := ⟨w.heap.size + 1, 0, none⟩) (v := .int .i64 z0) (by go_simp); replace zc1 := ck hb (a := ⟨w.heap.size + 1, 1, none⟩) (v := .int .u64 z1) (by go_simp); replace rc0 := ck hb (a := ⟨w.heap.size, 0, none⟩) (v := .int .i64 0) (by go_simp); replace rc1 := ck hb (a := ⟨w.heap.size, 1, none⟩) (v := .int .u64 0) (by go_simp); replace zz : w.heap.size + 1 < w1.heap.size := World.block_lt_of_cell? w1 _ zc0; replace zn : ¬ w.heap.size + 1 = w1.heap.size := Nat.ne_of_lt zz; replace zo : w.heap.size < w1.heap.size := Nat.lt_of_succ_lt zz; replace rz : w.heap.size < w1.heap.size := World.block_lt_of_cell? w1 _ rc0; replace rn : ¬ w.heap.size = w1.heap.size := Nat.ne_of_lt rz; replace HB : Below w.heap.size w w1 := bt (by repeat (first | (with_reducible exact HB) | (with_reducible exact Below.refl _ _) | (with_reducible apply bd) | (with_reducible apply ba) | (with_reducible refine bs ?_ (by first | (simp; done) | (simp; omega)) _))) hb; clear hb
  go_wp2_with fail
  refine (c2 _).mono ?_; rintro e w2 ⟨rfl, hb⟩; (with_reducible (repeat replace hb := undr hb)); replace zf0 := cf hb (szl (szl (World.block_lt_of_cell? _ _ zc0))) (sf (sf (zf0))); replace zf1 := cf hb (szl (szl (World.block_lt_of_cell? _ _ zc0))) (sf (sf (zf1))); replace rf0 := cf hb (szl (szl (World.block_lt_of_cell? _ _ rc0))) (sf (sf (rf0))); replace rf1 := cf hb (szl (szl (World.block_lt_of_cell? _ _ rc0))) (sf (sf (rf1))); replace zc0 := ck hb (sb (ss (zc0)) (by decide)); replace zc1 := ck hb (ss (sb (zc1) (by decide))); replace rc0 := ck hb (so (so (rc0) nerz) nerz); replace rc1 := ck hb (so (so (rc1) nerz) nerz); replace HB : Below w.heap.size w w2 := bt (by repeat (first | (with_reducible exact HB) | (with_reducible exact Below.refl _ _) | (with_reducible apply bd) | (with_reducible apply ba) | (with_reducible refine bs ?_ (by first | (simp; done) | (simp; omega)) _))) hb; clear hb
  go_wp2_with fail
  go_wp2
  obtain ⟨c3, c4⟩ := c3
  subst c3
  subst c4
  (try simp only [Exit.inBlock, Exit.then])
  refine bodyPost_ret (v := .agg #[.int .i64 u0, .int .u64 u1]) ?_ ?_ ?_
  · simp [results, Tryd.results28, go_sem, rc0, rc1]
  · rfl
  exact ⟨rfl, by repeat (first | (with_reducible exact HB) | (with_reducible exact Below.refl _ _) | (with_reducible apply bd) | (with_reducible apply ba) | (with_reducible refine bs ?_ (by first | (simp; done) | (simp; omega)) _))⟩

theorem half_prod {p q : Int} (h1 : 0 ≤ p) (h2 : p < 4294967296) (h3 : 0 ≤ q) (h4 : q < 4294967296) : 0 ≤ p * q ∧ p * q ≤ 18446744065119617025 := by
  refine ⟨Int.mul_nonneg h1 h3, ?_⟩
  have := Int.mul_le_mul (show p ≤ 4294967295 by omega) (show q ≤ 4294967295 by omega) h3 (by omega)
  omega
theorem halves (x y : Int) : (x / 4294967296 * (y / 4294967296)) * 18446744073709551616 + x % 4294967296 * (y % 4294967296) + (x % 4294967296 * (y / 4294967296)) * 4294967296 + (x / 4294967296 * (y % 4294967296)) * 4294967296 = x * y := by
  have e1 : x = x / 4294967296 * 4294967296 + x % 4294967296 := by omega
  have e2 : y = y / 4294967296 * 4294967296 + y % 4294967296 := by omega
  generalize x / 4294967296 = xh at *
  generalize x % 4294967296 = xl at *
  generalize y / 4294967296 = yh at *
  generalize y % 4294967296 = yl at *
  subst e1
  subst e2
  grind
theorem maskI (x : Int) (h1 : 0 ≤ x) (h2 : x ≤ 18446744073709551615) : bits .and .u64 x 4294967295 = x % 4294967296 := by
  obtain ⟨X, rfl⟩ := Int.eq_ofNat_of_zero_le h1
  rw [maskN X (by omega)]; omega

/-- The reference's product. -/
theorem mul28 (a b : Int) (a1 : -9223372036854775808 ≤ a) (a2 : a ≤ 9223372036854775807) (b1 : -9223372036854775808 ≤ b) (b2 : b ≤ 9223372036854775807) (w : World) :
    Calls Tryd.prog 28 #[.int .i64 a, .int .i64 b] w fun e w' => e = .returned (.agg #[.int .i64 (hiW (a * b)), .int .u64 (loW (a * b))]) ∧ Below w.heap.size w w' := by
  have c1 := absW_bd a a1 a2
  have c2 := absW_bd b b1 b2
  have c3 := prod_bd _ _ c1.1 c1.2 c2.1 c2.2
  have hab := absW_mul a b
  have hx := halves (absW a) (absW b)
  have m1 := maskI (absW a) c1.1 (by omega)
  have m2 := maskI (absW b) c2.1 (by omega)
  have p1 := half_prod (p := absW a / 4294967296) (q := absW b / 4294967296) (by omega) (by omega) (by omega) (by omega)
  have p2 := half_prod (p := absW a % 4294967296) (q := absW b % 4294967296) (by omega) (by omega) (by omega) (by omega)
  have p3 := half_prod (p := absW a % 4294967296) (q := absW b / 4294967296) (by omega) (by omega) (by omega) (by omega)
  have p4 := half_prod (p := absW a / 4294967296) (q := absW b % 4294967296) (by omega) (by omega) (by omega) (by omega)
  rw [hab] at c3 hx
  have hb : -85070591730234615865843651857942052864 ≤ a * b ∧ a * b ≤ 85070591730234615865843651857942052864 := by
    unfold absW at c3; split at c3 <;> omega
  have hw : wrap64 (hiW (a * b)) = hiW (a * b) := wrap64_in (by unfold hiW; omega) (by unfold hiW; omega)
  rw [← hw]
  have ks : ∀ P Q m n : Int, 0 ≤ P ∧ P ≤ 18446744065119617025 → 0 ≤ Q ∧ Q ≤ 18446744065119617025 → 0 ≤ m ∧ m ≤ 18446744065119617025 → 0 ≤ n ∧ n ≤ 18446744065119617025 →
      wrap64 (IntKind.u64.wrap P) = wrap64 (hiW (P * 18446744073709551616 + Q)) ∧ IntKind.u64.wrap Q = loW (P * 18446744073709551616 + Q) ∧ IntKind.u64.wrap m = m ∧ IntKind.u64.wrap n = n ∧
      wrap64 (m / 4294967296) = wrap64 (hiW (m * 4294967296)) ∧ IntKind.u64.wrap (m * 4294967296) = loW (m * 4294967296) ∧ wrap64 (n / 4294967296) = wrap64 (hiW (n * 4294967296)) ∧ IntKind.u64.wrap (n * 4294967296) = loW (n * 4294967296) := by
    intro P Q m n h1 h2 h3 h4
    simp only [IntKind.wrap_u64]
    unfold hiW loW
    refine ⟨?_, by omega, by omega, by omega, ?_, by omega, ?_, by omega⟩
    · congr 1; omega
    · congr 1; omega
    · congr 1; omega
  obtain ⟨k1, k2, k3, k4, k5, k6, k7, k8⟩ := ks _ _ _ _ p1 p2 p3 p4
  by_cases sa : a < 0 <;> by_cases sb : b < 0
  · have nn : 0 ≤ a * b := Int.mul_nonneg_of_nonpos_of_nonpos (by omega) (by omega)
    exact mul28_11 a b (absW a) (absW b) _ _ _ _ _ _ _ _ _ _ _ _ _ _ _ _ _ _ w (decide_eq_true sa) (decide_eq_true sb) (by rw [absW_neg sa, IntKind.wrap_u64, IntKind.wrap_u64]; omega) (by rw [absW_neg sb, IntKind.wrap_u64, IntKind.wrap_u64]; omega) m1 rfl m2 rfl k1 k2 k3 k4 k5 k6 k7 k8 (fun w => add39 _ _ w) (fun w => add39 _ _ w) (by rw [hx, absW_pos nn]; exact ⟨rfl, rfl⟩)
  · by_cases z : b = 0
    · have nn : a * b = 0 := by rw [z]; simp
      exact mul28_10 a b (absW a) (absW b) _ _ _ _ _ _ _ _ _ _ _ _ _ _ _ _ _ _ w (decide_eq_true sa) (decide_eq_false sb) (by rw [absW_neg sa, IntKind.wrap_u64, IntKind.wrap_u64]; omega) (by rw [absW_pos (by omega), IntKind.wrap_u64]; omega) m1 rfl m2 rfl k1 k2 k3 k4 k5 k6 k7 k8 (fun w => add39 _ _ w) (fun w => add39 _ _ w) (fun w => by rw [hx, nn]; exact neg40 0 w)
    · have nn : a * b < 0 := Int.mul_neg_of_neg_of_pos sa (by omega)
      exact mul28_10 a b (absW a) (absW b) _ _ _ _ _ _ _ _ _ _ _ _ _ _ _ _ _ _ w (decide_eq_true sa) (decide_eq_false sb) (by rw [absW_neg sa, IntKind.wrap_u64, IntKind.wrap_u64]; omega) (by rw [absW_pos (by omega), IntKind.wrap_u64]; omega) m1 rfl m2 rfl k1 k2 k3 k4 k5 k6 k7 k8 (fun w => add39 _ _ w) (fun w => add39 _ _ w) (fun w => by rw [hx, absW_neg nn]; have := neg40 (-(a * b)) w; rw [Int.neg_neg] at this; exact this)
  · by_cases z : a = 0
    · have nn : a * b = 0 := by rw [z]; simp
      exact mul28_01 a b (absW a) (absW b) _ _ _ _ _ _ _ _ _ _ _ _ _ _ _ _ _ _ w (decide_eq_false sa) (decide_eq_true sb) (by rw [absW_pos (by omega), IntKind.wrap_u64]; omega) (by rw [absW_neg sb, IntKind.wrap_u64, IntKind.wrap_u64]; omega) m1 rfl m2 rfl k1 k2 k3 k4 k5 k6 k7 k8 (fun w => add39 _ _ w) (fun w => add39 _ _ w) (fun w => by rw [hx, nn]; exact neg40 0 w)
    · have nn : a * b < 0 := Int.mul_neg_of_pos_of_neg (by omega) sb
      exact mul28_01 a b (absW a) (absW b) _ _ _ _ _ _ _ _ _ _ _ _ _ _ _ _ _ _ w (decide_eq_false sa) (decide_eq_true sb) (by rw [absW_pos (by omega), IntKind.wrap_u64]; omega) (by rw [absW_neg sb, IntKind.wrap_u64, IntKind.wrap_u64]; omega) m1 rfl m2 rfl k1 k2 k3 k4 k5 k6 k7 k8 (fun w => add39 _ _ w) (fun w => add39 _ _ w) (fun w => by rw [hx, absW_neg nn]; have := neg40 (-(a * b)) w; rw [Int.neg_neg] at this; exact this)
  · have nn : 0 ≤ a * b := Int.mul_nonneg (by omega) (by omega)
    exact mul28_00 a b (absW a) (absW b) _ _ _ _ _ _ _ _ _ _ _ _ _ _ _ _ _ _ w (decide_eq_false sa) (decide_eq_false sb) (by rw [absW_pos (by omega), IntKind.wrap_u64]; omega) (by rw [absW_pos (by omega), IntKind.wrap_u64]; omega) m1 rfl m2 rfl k1 k2 k3 k4 k5 k6 k7 k8 (fun w => add39 _ _ w) (fun w => add39 _ _ w) (by rw [hx, absW_pos nn]; exact ⟨rfl, rfl⟩)

end Go.Proofs.YtkamnnkdadfebaaDoor
