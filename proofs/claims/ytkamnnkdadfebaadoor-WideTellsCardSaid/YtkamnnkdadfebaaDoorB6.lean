import Derived.Test.YtkamnnkdadfebaaDoorA2
import Derived.Test.YtkamnnkdadfebaaDoorA3
namespace Go.Proofs.YtkamnnkdadfebaaDoor
open Go.RowKit
attribute [local go_sem high] eq24 eq37

/-- Does a number fit? -/
def fits (n : Int) : Bool := decide (-170141183460469231731687303715884105728 ≤ n ∧ n < 170141183460469231731687303715884105728)
/-- The number, or nought. -/
def cutA (n : Int) : Int := if fits n = true then n else 0

theorem fits_yes {n : Int} (h1 : -170141183460469231731687303715884105728 ≤ n) (h2 : n < 170141183460469231731687303715884105728) : fits n = true := decide_eq_true ⟨h1, h2⟩
theorem fits_no {n : Int} (h : ¬ (-170141183460469231731687303715884105728 ≤ n ∧ n < 170141183460469231731687303715884105728)) : fits n = false := decide_eq_false h
theorem fits_bd {n : Int} (h : fits n = true) : -170141183460469231731687303715884105728 ≤ n ∧ n < 170141183460469231731687303715884105728 := of_decide_eq_true h
theorem fits_not {n : Int} (h : fits n = false) : ¬ (-170141183460469231731687303715884105728 ≤ n ∧ n < 170141183460469231731687303715884105728) := of_decide_eq_false h
theorem cutA_yes {n : Int} (h : fits n = true) : cutA n = n := if_pos h
theorem cutA_no {n : Int} (h : fits n = false) : cutA n = 0 := by unfold cutA; rw [h]; rfl
theorem cutA_bd (n : Int) : -170141183460469231731687303715884105728 ≤ cutA n ∧ cutA n < 170141183460469231731687303715884105728 := by
  cases h : fits n
  · rw [cutA_no h]; omega
  · rw [cutA_yes h]; exact fits_bd h

set_option maxHeartbeats 1000000 in
set_option maxRecDepth 100000 in
theorem add13w_y (a b c d s l z : Int) (w : World) (bu bv bh : Bool) (k1 : ∀ w, (callFunc 31 #[.int .u64 b, .int .u64 d, .int .u64 0]).run Tryd.prog w = .ok (.value (.tuple #[.int .u64 l, .int .u64 z])) w)
    (H2 : wrap64 (wrap64 (a + c) + wrap64 z) = s) (h1 : decide (a < 0) = bu) (h2 : decide (c < 0) = bv) (h3 : decide (s < 0) = bh) (hb : bu = bv → bh = bu) :
    Calls Tryd.prog 13 #[.agg #[.int .i64 a, .int .u64 b], .agg #[.int .i64 c, .int .u64 d]] w fun e w' => e = .returned (.tuple #[.agg #[.int .i64 s, .int .u64 l], .bool true]) ∧ Below w.heap.size w w' := by
  have HB := Below.refl w.heap.size w
  have hcases : (bu = true ∧ bv = true ∧ bh = true) ∨ (bu = false ∧ bv = false ∧ bh = false) ∨ (bu = true ∧ bv = false) ∨ (bu = false ∧ bv = true) := by
    cases bu <;> cases bv <;> cases bh <;> simp at hb ⊢
  clear hb
  rcases hcases with ⟨rfl, rfl, rfl⟩ | ⟨rfl, rfl, rfl⟩ | ⟨rfl, rfl⟩ | ⟨rfl, rfl⟩
  all_goals
    go_enter Tryd.func13, Tryd.ntmps13
    go_wp2
    (try simp only [Exit.inBlock, Exit.then])
    refine bodyPost_ret (v := .tuple #[.agg #[.int .i64 s, .int .u64 l], .bool true]) ?_ ?_ ?_
    · simp [results, Tryd.results13, go_sem]
    · rfl
    exact ⟨rfl, by repeat (first | (with_reducible exact HB) | (with_reducible exact Below.refl _ _) | (with_reducible apply bd) | (with_reducible apply ba) | (with_reducible refine bs ?_ (by first | (simp; done) | (simp; omega)) _))⟩

set_option maxHeartbeats 1000000 in
set_option maxRecDepth 100000 in
theorem add13w_n (a b c d s l z : Int) (w : World) (bu bv bh : Bool) (k1 : ∀ w, (callFunc 31 #[.int .u64 b, .int .u64 d, .int .u64 0]).run Tryd.prog w = .ok (.value (.tuple #[.int .u64 l, .int .u64 z])) w)
    (H2 : wrap64 (wrap64 (a + c) + wrap64 z) = s) (h1 : decide (a < 0) = bu) (h2 : decide (c < 0) = bv) (h3 : decide (s < 0) = bh) (hb : bu = bv ∧ bh ≠ bu) :
    Calls Tryd.prog 13 #[.agg #[.int .i64 a, .int .u64 b], .agg #[.int .i64 c, .int .u64 d]] w fun e w' => e = .returned (.tuple #[.agg #[.int .i64 0, .int .u64 0], .bool false]) ∧ Below w.heap.size w w' := by
  have HB := Below.refl w.heap.size w
  have hcases : (bu = true ∧ bv = true ∧ bh = false) ∨ (bu = false ∧ bv = false ∧ bh = true) := by
    cases bu <;> cases bv <;> cases bh <;> simp at hb ⊢
  clear hb
  rcases hcases with ⟨rfl, rfl, rfl⟩ | ⟨rfl, rfl, rfl⟩
  all_goals
    go_enter Tryd.func13, Tryd.ntmps13
    go_wp2
    (try simp only [Exit.inBlock, Exit.then])
    refine bodyPost_ret (v := .tuple #[.agg #[.int .i64 0, .int .u64 0], .bool false]) ?_ ?_ ?_
    · simp [results, Tryd.results13, go_sem]
    · rfl
    exact ⟨rfl, by repeat (first | (with_reducible exact HB) | (with_reducible exact Below.refl _ _) | (with_reducible apply bd) | (with_reducible apply ba) | (with_reducible refine bs ?_ (by first | (simp; done) | (simp; omega)) _))⟩

set_option maxHeartbeats 1000000 in
set_option maxRecDepth 100000 in
theorem sub14w_y (a b c d s l z : Int) (w : World) (bu bv bh : Bool) (k1 : ∀ w, (callFunc 38 #[.int .u64 b, .int .u64 d, .int .u64 0]).run Tryd.prog w = .ok (.value (.tuple #[.int .u64 l, .int .u64 z])) w)
    (H2 : wrap64 (wrap64 (a - c) - wrap64 z) = s) (h1 : decide (a < 0) = bu) (h2 : decide (c < 0) = bv) (h3 : decide (s < 0) = bh) (hb : bu ≠ bv → bh = bu) :
    Calls Tryd.prog 14 #[.agg #[.int .i64 a, .int .u64 b], .agg #[.int .i64 c, .int .u64 d]] w fun e w' => e = .returned (.tuple #[.agg #[.int .i64 s, .int .u64 l], .bool true]) ∧ Below w.heap.size w w' := by
  have HB := Below.refl w.heap.size w
  have hcases : (bu = true ∧ bv = false ∧ bh = true) ∨ (bu = false ∧ bv = true ∧ bh = false) ∨ (bu = true ∧ bv = true) ∨ (bu = false ∧ bv = false) := by
    cases bu <;> cases bv <;> cases bh <;> simp at hb ⊢
  clear hb
  rcases hcases with ⟨rfl, rfl, rfl⟩ | ⟨rfl, rfl, rfl⟩ | ⟨rfl, rfl⟩ | ⟨rfl, rfl⟩
  all_goals
    go_enter Tryd.func14, Tryd.ntmps14
    go_wp2
    (try simp only [Exit.inBlock, Exit.then])
    refine bodyPost_ret (v := .tuple #[.agg #[.int .i64 s, .int .u64 l], .bool true]) ?_ ?_ ?_
    · simp [results, Tryd.results14, go_sem]
    · rfl
    exact ⟨rfl, by repeat (first | (with_reducible exact HB) | (with_reducible exact Below.refl _ _) | (with_reducible apply bd) | (with_reducible apply ba) | (with_reducible refine bs ?_ (by first | (simp; done) | (simp; omega)) _))⟩

set_option maxHeartbeats 1000000 in
set_option maxRecDepth 100000 in
theorem sub14w_n (a b c d s l z : Int) (w : World) (bu bv bh : Bool) (k1 : ∀ w, (callFunc 38 #[.int .u64 b, .int .u64 d, .int .u64 0]).run Tryd.prog w = .ok (.value (.tuple #[.int .u64 l, .int .u64 z])) w)
    (H2 : wrap64 (wrap64 (a - c) - wrap64 z) = s) (h1 : decide (a < 0) = bu) (h2 : decide (c < 0) = bv) (h3 : decide (s < 0) = bh) (hb : bu ≠ bv ∧ bh ≠ bu) :
    Calls Tryd.prog 14 #[.agg #[.int .i64 a, .int .u64 b], .agg #[.int .i64 c, .int .u64 d]] w fun e w' => e = .returned (.tuple #[.agg #[.int .i64 0, .int .u64 0], .bool false]) ∧ Below w.heap.size w w' := by
  have HB := Below.refl w.heap.size w
  have hcases : (bu = true ∧ bv = false ∧ bh = false) ∨ (bu = false ∧ bv = true ∧ bh = true) := by
    cases bu <;> cases bv <;> cases bh <;> simp at hb ⊢
  clear hb
  rcases hcases with ⟨rfl, rfl, rfl⟩ | ⟨rfl, rfl, rfl⟩
  all_goals
    go_enter Tryd.func14, Tryd.ntmps14
    go_wp2
    (try simp only [Exit.inBlock, Exit.then])
    refine bodyPost_ret (v := .tuple #[.agg #[.int .i64 0, .int .u64 0], .bool false]) ?_ ?_ ?_
    · simp [results, Tryd.results14, go_sem]
    · rfl
    exact ⟨rfl, by repeat (first | (with_reducible exact HB) | (with_reducible exact Below.refl _ _) | (with_reducible apply bd) | (with_reducible apply ba) | (with_reducible refine bs ?_ (by first | (simp; done) | (simp; omega)) _))⟩

/-- The sum, if it fits. -/
theorem add13 (u v : Int) (w : World) (hu : fits u = true) (hv : fits v = true) :
    Calls Tryd.prog 13 #[.agg #[.int .i64 (hiW u), .int .u64 (loW u)], .agg #[.int .i64 (hiW v), .int .u64 (loW v)]] w fun e w' => e = .returned (.tuple #[.agg #[.int .i64 (hiW (cutA (u + v))), .int .u64 (loW (cutA (u + v)))], .bool (fits (u + v))]) ∧ Below w.heap.size w w' := by
  have b1 := loW_bd u
  have b2 := loW_bd v
  obtain ⟨u1, u2⟩ := fits_bd hu
  obtain ⟨v1, v2⟩ := fits_bd hv
  have e1 : addD (loW u) (loW v) 0 = loW (u + v) := by unfold addD loW; omega
  have k1 : ∀ w, (callFunc 31 #[.int .u64 (loW u), .int .u64 (loW v), .int .u64 0]).run Tryd.prog w = .ok (.value (.tuple #[.int .u64 (loW (u + v)), .int .u64 (addC (loW u) (loW v) 0)])) w := fun w => by
    have := add31 (loW u) (loW v) 0 b1.1 b2.1 (by omega) (by omega) w
    rw [e1] at this; exact this
  have e2 : wrap64 (wrap64 (hiW u + hiW v) + wrap64 (addC (loW u) (loW v) 0)) = wrap64 (hiW (u + v)) := by
    unfold wrap64 addC hiW loW; omega
  cases hf : fits (u + v)
  · rw [cutA_no hf]
    have hf' := fits_not hf
    refine add13w_n _ _ _ _ (wrap64 (hiW (u + v))) _ _ w _ _ _ k1 e2 rfl rfl rfl ⟨?_, ?_⟩
    all_goals unfold hiW; simp only [decide_eq_decide, ne_eq]; (try unfold wrap64); omega
  · rw [cutA_yes hf]
    obtain ⟨f1, f2⟩ := fits_bd hf
    have e3 : wrap64 (hiW (u + v)) = hiW (u + v) := by unfold wrap64 hiW; omega
    refine add13w_y _ _ _ _ _ _ _ w _ _ _ k1 (e2.trans e3) rfl rfl rfl ?_
    unfold hiW; simp only [decide_eq_decide, ne_eq]; intro g; omega

/-- The difference, if it fits. -/
theorem sub14 (u v : Int) (w : World) (hu : fits u = true) (hv : fits v = true) :
    Calls Tryd.prog 14 #[.agg #[.int .i64 (hiW u), .int .u64 (loW u)], .agg #[.int .i64 (hiW v), .int .u64 (loW v)]] w fun e w' => e = .returned (.tuple #[.agg #[.int .i64 (hiW (cutA (u - v))), .int .u64 (loW (cutA (u - v)))], .bool (fits (u - v))]) ∧ Below w.heap.size w w' := by
  have b1 := loW_bd u
  have b2 := loW_bd v
  obtain ⟨u1, u2⟩ := fits_bd hu
  obtain ⟨v1, v2⟩ := fits_bd hv
  have e1 : subD (loW u) (loW v) 0 = loW (u - v) := by unfold subD loW; omega
  have k1 : ∀ w, (callFunc 38 #[.int .u64 (loW u), .int .u64 (loW v), .int .u64 0]).run Tryd.prog w = .ok (.value (.tuple #[.int .u64 (loW (u - v)), .int .u64 (subB (loW u) (loW v) 0)])) w := fun w => by
    have := sub38 (loW u) (loW v) 0 b1.1 b2.1 b1.2 b2.2 (by omega) (by omega) w
    rw [e1] at this; exact this
  have e2 : wrap64 (wrap64 (hiW u - hiW v) - wrap64 (subB (loW u) (loW v) 0)) = wrap64 (hiW (u - v)) := by
    unfold wrap64 subB hiW loW; (repeat' split) <;> omega
  cases hf : fits (u - v)
  · rw [cutA_no hf]
    have hf' := fits_not hf
    refine sub14w_n _ _ _ _ (wrap64 (hiW (u - v))) _ _ w _ _ _ k1 e2 rfl rfl rfl ⟨?_, ?_⟩
    all_goals unfold hiW; simp only [decide_eq_decide, ne_eq]; (try unfold wrap64); omega
  · rw [cutA_yes hf]
    obtain ⟨f1, f2⟩ := fits_bd hf
    have e3 : wrap64 (hiW (u - v)) = hiW (u - v) := by unfold wrap64 hiW; omega
    refine sub14w_y _ _ _ _ _ _ _ w _ _ _ k1 (e2.trans e3) rfl rfl rfl ?_
    unfold hiW; simp only [decide_eq_decide, ne_eq]; intro g; omega

set_option maxHeartbeats 1000000 in
set_option maxRecDepth 100000 in
theorem neg19w (a b : Int) (w : World) (x y : Int) (bb : Bool) (H : ∀ w, Calls Tryd.prog 14 #[.agg #[.int .i64 0, .int .u64 0], .agg #[.int .i64 a, .int .u64 b]] w fun e w' => e = .returned (.tuple #[.agg #[.int .i64 x, .int .u64 y], .bool bb]) ∧ Below w.heap.size w w') :
    Calls Tryd.prog 19 #[.agg #[.int .i64 a, .int .u64 b]] w fun e w' => e = .returned (.tuple #[.agg #[.int .i64 x, .int .u64 y], .bool bb]) ∧ Below w.heap.size w w' := by
  have HB := Below.refl w.heap.size w
  go_enter Tryd.func19, Tryd.ntmps19
  go_wp2_with fail
  refine (H _).mono ?_; rintro e w1 ⟨rfl, hb⟩; (with_reducible (repeat replace hb := undr hb)); have c0 := ck hb (a := ⟨w.heap.size + 1, 0, none⟩) (v := .int .i64 0) (by go_simp); have c1 := ck hb (a := ⟨w.heap.size + 1, 1, none⟩) (v := .int .u64 0) (by go_simp); have f0 := cf hb (b := w.heap.size + 1) (o := 0) (by simp) (by go_simp); have f1 := cf hb (b := w.heap.size + 1) (o := 1) (by simp) (by go_simp); replace HB : Below w.heap.size w w1 := bt (by repeat (first | (with_reducible exact HB) | (with_reducible exact Below.refl _ _) | (with_reducible apply bd) | (with_reducible apply ba) | (with_reducible refine bs ?_ (by first | (simp; done) | (simp; omega)) _))) hb; clear hb
  go_wp2_with fail
  (try simp only [Exit.inBlock, Exit.then])
  refine bodyPost_ret (v := .tuple #[.agg #[.int .i64 x, .int .u64 y], .bool bb]) ?_ ?_ ?_
  · simp [results, Tryd.results19, go_sem, c0, c1]
  · rfl
  exact ⟨rfl, by repeat (first | (with_reducible exact HB) | (with_reducible exact Below.refl _ _) | (with_reducible apply bd) | (with_reducible apply ba) | (with_reducible refine bs ?_ (by first | (simp; done) | (simp; omega)) _))⟩
/-- The opposite, if it fits. -/
theorem neg19 (u : Int) (w : World) (hu : fits u = true) :
    Calls Tryd.prog 19 #[.agg #[.int .i64 (hiW u), .int .u64 (loW u)]] w fun e w' => e = .returned (.tuple #[.agg #[.int .i64 (hiW (cutA (-u))), .int .u64 (loW (cutA (-u)))], .bool (fits (-u))]) ∧ Below w.heap.size w w' := by
  refine neg19w _ _ w _ _ _ (fun w => ?_)
  have := sub14 0 u w rfl hu
  rw [show (0 : Int) - u = -u by omega] at this
  exact this

set_option maxHeartbeats 1000000 in
set_option maxRecDepth 100000 in
theorem from26 (n : Int) (h1 : -9223372036854775808 ≤ n) (h2 : n ≤ 9223372036854775807) (w : World) :
    Calls Tryd.prog 26 #[.int .i64 n] w fun e w' => e = .returned (.agg #[.int .i64 (hiW n), .int .u64 (loW n)]) ∧ Below w.heap.size w w' := by
  have HB := Below.refl w.heap.size w
  have e1 : n / 9223372036854775808 = hiW n := by unfold hiW; omega
  have e2 : IntKind.u64.wrap n = loW n := by rw [IntKind.wrap_u64]; unfold loW; omega
  go_enter Tryd.func26, Tryd.ntmps26
  go_wp2
  (try simp only [Exit.inBlock, Exit.then])
  refine bodyPost_ret (v := .agg #[.int .i64 (hiW n), .int .u64 (loW n)]) ?_ ?_ ?_
  · simp [results, Tryd.results26, go_sem]
  · rfl
  exact ⟨rfl, by repeat (first | (with_reducible exact HB) | (with_reducible exact Below.refl _ _) | (with_reducible apply bd) | (with_reducible apply ba) | (with_reducible refine bs ?_ (by first | (simp; done) | (simp; omega)) _))⟩

set_option maxHeartbeats 1000000 in
set_option maxRecDepth 100000 in
theorem of17 (a b : Int) (w : World) :
    Calls Tryd.prog 17 #[.agg #[.int .i64 a, .int .u64 b]] w fun e w' => e = .returned (.agg #[.int .i64 a, .int .u64 b]) ∧ Below w.heap.size w w' := by
  have HB := Below.refl w.heap.size w
  go_enter Tryd.func17, Tryd.ntmps17
  go_wp2
  (try simp only [Exit.inBlock, Exit.then])
  refine bodyPost_ret (v := .agg #[.int .i64 a, .int .u64 b]) ?_ ?_ ?_
  · simp [results, Tryd.results17, go_sem]
  · rfl
  exact ⟨rfl, by repeat (first | (with_reducible exact HB) | (with_reducible exact Below.refl _ _) | (with_reducible apply bd) | (with_reducible apply ba) | (with_reducible refine bs ?_ (by first | (simp; done) | (simp; omega)) _))⟩
end Go.Proofs.YtkamnnkdadfebaaDoor
