import Derived.Test.YtkamnnkdadfebaaDoorA1
import Derived.Test.YtkamnnkdadfebaaDoorB1
import Derived.Test.YtkamnnkdadfebaaDoorB2
import Derived.Lib.ItoaLen
namespace Go.Proofs.YtkamnnkdadfebaaDoor
open Go.RowKit
attribute [local go_sem high] eq24 eq37

set_option maxHeartbeats 1000000 in
set_option maxRecDepth 100000 in
/-- The opposite of any size. -/
theorem signed32_all (v : Int) (h0 : 0 ≤ v) (h1 : v < 340282366920938463463374607431768211456) (w : World) :
    Calls Tryd.prog 32 #[.int .u64 (hiW v), .int .u64 (loW v), .bool true] w fun e w' => e = .returned (.agg #[.int .i64 (wrap64 (hiW (-v))), .int .u64 (loW (-v))]) ∧ Below w.heap.size w w' := by
  have b1 := loW_bd v
  have b2 : 0 ≤ hiW v ∧ hiW v ≤ 18446744073709551615 := by unfold hiW; omega
  have b3 : 0 ≤ subB 0 (loW v) 0 ∧ subB 0 (loW v) 0 ≤ 1 := by unfold subB; split <;> omega
  have k1 : ∀ w, (callFunc 38 #[.int .u64 0, .int .u64 (loW v), .int .u64 0]).run Tryd.prog w = .ok (.value (.tuple #[.int .u64 (subD 0 (loW v) 0), .int .u64 (subB 0 (loW v) 0)])) w :=
    fun w => sub38 _ _ _ (by omega) b1.1 (by omega) b1.2 (by omega) (by omega) w
  have k2 : ∀ w, (callFunc 38 #[.int .u64 0, .int .u64 (hiW v), .int .u64 (subB 0 (loW v) 0)]).run Tryd.prog w = .ok (.value (.tuple #[.int .u64 (subD 0 (hiW v) (subB 0 (loW v) 0)), .int .u64 (subB 0 (hiW v) (subB 0 (loW v) 0))])) w :=
    fun w => sub38 _ _ _ (by omega) b2.1 (by omega) b2.2 b3.1 b3.2 w
  have H1 : subD 0 (loW v) 0 = loW (-v) := by unfold subD loW; omega
  have H2 : wrap64 (subD 0 (hiW v) (subB 0 (loW v) 0)) = wrap64 (hiW (-v)) := by
    unfold wrap64 subD subB hiW loW; (repeat' split) <;> omega
  clear b1 b2 b3 h0 h1
  generalize subB 0 (hiW v) (subB 0 (loW v) 0) = z2 at *
  generalize subD 0 (hiW v) (subB 0 (loW v) 0) = z1 at *
  generalize subD 0 (loW v) 0 = y1 at *
  generalize subB 0 (loW v) 0 = y2 at *
  generalize wrap64 (hiW (-v)) = r1 at *
  generalize loW (-v) = r2 at *
  generalize hiW v = hv at *
  generalize loW v = lv at *
  subst H1
  replace H2 := Lib.hid H2
  go_enter Tryd.func32, Tryd.ntmps32
  go_wp2
  (try simp only [Exit.inBlock, Exit.then])
  refine bodyPost_ret (v := .agg #[.int .i64 (wrap64 z1), .int .u64 y1]) ?_ ?_ ?_
  · simp [results, Tryd.results32, go_sem]
  · rfl
  exact ⟨by rw [H2.out], by repeat (first | (with_reducible exact Below.refl _ _) | (with_reducible assumption) | (with_reducible apply bd) | (with_reducible apply ba) | (with_reducible refine bs ?_ (by first | (simp; done) | (simp; omega)) _) | (with_reducible refine bt ?_ ‹_›))⟩

theorem fmt34i (n : Int) (h0 : 0 ≤ n) (h1 : n ≤ 18446744073709551615) (w : World) (htab : Tab w) :
    Calls Tryd.prog 34 #[.int .u64 n, .int .i64 10] w fun e w' => e = .returned (.string ⟨(Lib.itoa n).toArray⟩) ∧ Below w.heap.size w w' := by
  obtain ⟨u, rfl⟩ := Int.eq_ofNat_of_zero_le h0
  rw [show Lib.itoa (u : Int) = Lib.decDigits u by unfold Lib.itoa; rw [if_neg (by omega)]; rfl]
  exact fmt34 u (by omega) w htab

theorem itoa_len (n : Int) (h0 : 0 ≤ n) (h1 : n ≤ 18446744073709551615) : (Lib.itoa n).length ≤ 20 := by
  obtain ⟨u, rfl⟩ := Int.eq_ofNat_of_zero_le h0
  rw [show Lib.itoa (u : Int) = Lib.decDigits u by unfold Lib.itoa; rw [if_neg (by omega)]; rfl, Lib.decDigits_length]
  exact Lib.nDigits_le20 u (by omega)

theorem catB (l m : List UInt8) : (⟨l.toArray⟩ : ByteArray) ++ ⟨m.toArray⟩ = ⟨(l ++ m).toArray⟩ := by
  ext1; simp
theorem rs {a b : ByteArray} (h : a = b) : Ending.returned (.string a) = .returned (.string b) := by rw [h]
theorem below_in {w w1 w2 : World} (h : Below w.heap.size w w1) (k : Below w1.heap.size w1 w2) : Below w.heap.size w w2 := bt h k

set_option maxHeartbeats 4000000 in
set_option maxRecDepth 100000 in
theorem text11_ps (a b l : Int) (w : World) (htab : Tab w) (S : List UInt8) (l1 : S.length ≤ 20) (k4 : ∀ w, Tab w → Calls Tryd.prog 34 #[.int .u64 l, .int .i64 10] w fun e w' => e = .returned (.string ⟨S.toArray⟩) ∧ Below w.heap.size w w')
    (t0 : decide (a < 0) = false) (u0 : IntKind.u64.wrap a = 0) (ub : b = l) :
    Calls Tryd.prog 11 #[.agg #[.int .i64 a, .int .u64 b]] w fun e w' => e = .returned (.string ⟨(S).toArray⟩) ∧ Below w.heap.size w w' := by
  subst ub
  have HB := Below.refl w.heap.size w
  go_enter Tryd.func11, Tryd.ntmps11
  go_wp2_with fail
  go_region_held3 (fun w' => w'.cell? ⟨w.heap.size, 0, none⟩ = some (.int .i64 a) ∧ w'.cell? ⟨w.heap.size, 1, none⟩ = some (.int .u64 b)) ((repeat' apply And.intro) <;> go_simp) (fail)
  all_goals
    go_wp2_with fail
    refine wp_loop_rounds 2 ?_
    rw [rounds_succ]
    go_wp2_with (first | (go_at_call 34; refine (k4 _ (tab_below htab (by repeat (first | (with_reducible exact HB) | (with_reducible exact Below.refl _ _) | (with_reducible apply bd) | (with_reducible apply ba) | (with_reducible refine bs ?_ (by first | (simp; done) | (simp; omega)) _))))).mono ?_; rintro e w1 ⟨rfl, hb⟩; (with_reducible (repeat replace hb := undr hb)); replace HB : Below w.heap.size w w1 := bt (by repeat (first | (with_reducible exact HB) | (with_reducible exact Below.refl _ _) | (with_reducible apply bd) | (with_reducible apply ba) | (with_reducible refine bs ?_ (by first | (simp; done) | (simp; omega)) _))) hb; clear hb))
    all_goals first
      | (exfalso; omega)
      | (go_ret
         refine ⟨rs ?_, by repeat (first | (with_reducible exact HB) | (with_reducible exact Below.refl _ _) | (with_reducible apply bd) | (with_reducible apply ba) | (with_reducible refine bs ?_ (by first | (simp; done) | (simp; omega)) _))⟩
         (try simp only [catB]); simp)

set_option maxHeartbeats 4000000 in
set_option maxRecDepth 100000 in
theorem text11_pb (a b h l Q R : Int) (w : World) (htab : Tab w) (T S Z : List UInt8) (f0 : decide (0 < h) = true) (f2 : h / 10000000000000000000 = 0) (f3 : h % 10000000000000000000 = h) (q0 : decide (0 < Q) = true)
    (k1 : ∀ w, Calls Tryd.prog 33 #[.int .u64 h, .int .u64 l, .int .u64 10000000000000000000] w fun e w' => e = .returned (.tuple #[.int .u64 Q, .int .u64 R]) ∧ w = w')
    (k2 : ∀ w, Tab w → Calls Tryd.prog 34 #[.int .u64 R, .int .i64 10] w fun e w' => e = .returned (.string ⟨S.toArray⟩) ∧ Below w.heap.size w w')
    (k3 : ∀ w, Calls Tryd.prog 35 #[.string ⟨#[48]⟩, .int .i64 (19 - (S.length : Int))] w fun e w' => e = .returned (.string ⟨Z.toArray⟩) ∧ Below w.heap.size w w')
    (k4 : ∀ w, Tab w → Calls Tryd.prog 34 #[.int .u64 Q, .int .i64 10] w fun e w' => e = .returned (.string ⟨T.toArray⟩) ∧ Below w.heap.size w w')
    (l1 : S.length ≤ 19) (l2 : Z.length ≤ 19) (l3 : T.length ≤ 20)
    (t0 : decide (a < 0) = false) (u0 : IntKind.u64.wrap a = h) (ub : b = l) :
    Calls Tryd.prog 11 #[.agg #[.int .i64 a, .int .u64 b]] w fun e w' => e = .returned (.string ⟨(T ++ (Z ++ S)).toArray⟩) ∧ Below w.heap.size w w' := by
  subst ub
  have HB := Below.refl w.heap.size w
  go_enter Tryd.func11, Tryd.ntmps11
  go_wp2_with fail
  go_region_held3 (fun w' => w'.cell? ⟨w.heap.size, 0, none⟩ = some (.int .i64 a) ∧ w'.cell? ⟨w.heap.size, 1, none⟩ = some (.int .u64 b)) ((repeat' apply And.intro) <;> go_simp) (fail)
  all_goals
    go_wp2_with fail
    refine wp_loop_rounds 2 ?_
    rw [rounds_succ]
    go_wp2_with (first | (go_at_call 33; refine (k1 _).mono ?_; rintro e w1 ⟨rfl, rfl⟩) | (go_at_call 35; refine (k3 _).mono ?_; rintro e w1 ⟨rfl, hb⟩; (with_reducible (repeat replace hb := undr hb)); replace HB : Below w.heap.size w w1 := bt (by repeat (first | (with_reducible exact HB) | (with_reducible exact Below.refl _ _) | (with_reducible apply bd) | (with_reducible apply ba) | (with_reducible refine bs ?_ (by first | (simp; done) | (simp; omega)) _))) hb; clear hb) | (go_at_call 34; refine (k2 _ (tab_below htab (by repeat (first | (with_reducible exact HB) | (with_reducible exact Below.refl _ _) | (with_reducible apply bd) | (with_reducible apply ba) | (with_reducible refine bs ?_ (by first | (simp; done) | (simp; omega)) _))))).mono ?_; rintro e w1 ⟨rfl, hb⟩; (with_reducible (repeat replace hb := undr hb)); replace HB : Below w.heap.size w w1 := bt (by repeat (first | (with_reducible exact HB) | (with_reducible exact Below.refl _ _) | (with_reducible apply bd) | (with_reducible apply ba) | (with_reducible refine bs ?_ (by first | (simp; done) | (simp; omega)) _))) hb; clear hb))
    all_goals first | (exfalso; omega) | skip
    rw [rounds_succ]
    go_wp2_with (first | (go_at_call 34; refine (k4 _ (tab_below htab (by repeat (first | (with_reducible exact HB) | (with_reducible exact Below.refl _ _) | (with_reducible apply bd) | (with_reducible apply ba) | (with_reducible refine bs ?_ (by first | (simp; done) | (simp; omega)) _))))).mono ?_; rintro e w1 ⟨rfl, hb⟩; (with_reducible (repeat replace hb := undr hb)); replace HB : Below w.heap.size w w1 := bt (by repeat (first | (with_reducible exact HB) | (with_reducible exact Below.refl _ _) | (with_reducible apply bd) | (with_reducible apply ba) | (with_reducible refine bs ?_ (by first | (simp; done) | (simp; omega)) _))) hb; clear hb))
    all_goals first
      | (exfalso; omega)
      | (go_ret
         refine ⟨rs ?_, by repeat (first | (with_reducible exact HB) | (with_reducible exact Below.refl _ _) | (with_reducible apply bd) | (with_reducible apply ba) | (with_reducible refine bs ?_ (by first | (simp; done) | (simp; omega)) _))⟩
         (try simp only [catB]); simp)

set_option maxHeartbeats 4000000 in
set_option maxRecDepth 100000 in
theorem text11_ns (a b l : Int) (w : World) (htab : Tab w) (S : List UInt8) (l1 : S.length ≤ 20) (k4 : ∀ w, Tab w → Calls Tryd.prog 34 #[.int .u64 l, .int .i64 10] w fun e w' => e = .returned (.string ⟨S.toArray⟩) ∧ Below w.heap.size w w')
    (t0 : decide (a < 0) = true) (x : Int) (u0 : IntKind.u64.wrap a = x) (y : Int) (u1 : IntKind.u64.wrap y = 0)
    (k5 : ∀ w, Calls Tryd.prog 32 #[.int .u64 x, .int .u64 b, .bool true] w fun e w' => e = .returned (.agg #[.int .i64 y, .int .u64 l]) ∧ Below w.heap.size w w') :
    Calls Tryd.prog 11 #[.agg #[.int .i64 a, .int .u64 b]] w fun e w' => e = .returned (.string ⟨(45 :: (S)).toArray⟩) ∧ Below w.heap.size w w' := by
  have HB := Below.refl w.heap.size w
  go_enter Tryd.func11, Tryd.ntmps11
  go_wp2_with fail
  go_region_held3 (fun w' => w'.cell? ⟨w.heap.size, 0, none⟩ = some (.int .i64 a) ∧ w'.cell? ⟨w.heap.size, 1, none⟩ = some (.int .u64 b)) ((repeat' apply And.intro) <;> go_simp) (fail)
  all_goals
    go_wp2_with (go_at_call 32; refine (k5 _).mono ?_; rintro e w1 ⟨rfl, hb⟩; (with_reducible (repeat replace hb := undr hb)); replace HB : Below w.heap.size w w1 := bt (by repeat (first | (with_reducible exact HB) | (with_reducible exact Below.refl _ _) | (with_reducible apply bd) | (with_reducible apply ba) | (with_reducible refine bs ?_ (by first | (simp; done) | (simp; omega)) _))) hb; clear hb)
    go_region_held3 (fun w' => w'.cell? ⟨w1.heap.size, 0, none⟩ = some (.int .i64 y) ∧ w'.cell? ⟨w1.heap.size, 1, none⟩ = some (.int .u64 l)) ((repeat' apply And.intro) <;> go_simp) (fail)
  all_goals
    go_wp2_with fail
    refine wp_loop_rounds 2 ?_
    rw [rounds_succ]
    go_wp2_with (first | (go_at_call 34; refine (k4 _ (tab_below htab (by repeat (first | (with_reducible exact HB) | (with_reducible exact Below.refl _ _) | (with_reducible apply bd) | (with_reducible apply ba) | (with_reducible refine bs ?_ (by first | (simp; done) | (simp; omega)) _))))).mono ?_; rintro e w1 ⟨rfl, hb⟩; (with_reducible (repeat replace hb := undr hb)); replace HB : Below w.heap.size w w1 := bt (by repeat (first | (with_reducible exact HB) | (with_reducible exact Below.refl _ _) | (with_reducible apply bd) | (with_reducible apply ba) | (with_reducible refine bs ?_ (by first | (simp; done) | (simp; omega)) _))) hb; clear hb))
    all_goals first
      | (exfalso; omega)
      | (go_ret
         refine ⟨rs ?_, by repeat (first | (with_reducible exact HB) | (with_reducible exact Below.refl _ _) | (with_reducible apply bd) | (with_reducible apply ba) | (with_reducible refine bs ?_ (by first | (simp; done) | (simp; omega)) _))⟩
         (try simp only [catB]); simp)

set_option maxHeartbeats 4000000 in
set_option maxRecDepth 100000 in
theorem text11_nb (a b h l Q R : Int) (w : World) (htab : Tab w) (T S Z : List UInt8) (f0 : decide (0 < h) = true) (f2 : h / 10000000000000000000 = 0) (f3 : h % 10000000000000000000 = h) (q0 : decide (0 < Q) = true)
    (k1 : ∀ w, Calls Tryd.prog 33 #[.int .u64 h, .int .u64 l, .int .u64 10000000000000000000] w fun e w' => e = .returned (.tuple #[.int .u64 Q, .int .u64 R]) ∧ w = w')
    (k2 : ∀ w, Tab w → Calls Tryd.prog 34 #[.int .u64 R, .int .i64 10] w fun e w' => e = .returned (.string ⟨S.toArray⟩) ∧ Below w.heap.size w w')
    (k3 : ∀ w, Calls Tryd.prog 35 #[.string ⟨#[48]⟩, .int .i64 (19 - (S.length : Int))] w fun e w' => e = .returned (.string ⟨Z.toArray⟩) ∧ Below w.heap.size w w')
    (k4 : ∀ w, Tab w → Calls Tryd.prog 34 #[.int .u64 Q, .int .i64 10] w fun e w' => e = .returned (.string ⟨T.toArray⟩) ∧ Below w.heap.size w w')
    (l1 : S.length ≤ 19) (l2 : Z.length ≤ 19) (l3 : T.length ≤ 20)
    (t0 : decide (a < 0) = true) (x : Int) (u0 : IntKind.u64.wrap a = x) (y : Int) (u1 : IntKind.u64.wrap y = h)
    (k5 : ∀ w, Calls Tryd.prog 32 #[.int .u64 x, .int .u64 b, .bool true] w fun e w' => e = .returned (.agg #[.int .i64 y, .int .u64 l]) ∧ Below w.heap.size w w') :
    Calls Tryd.prog 11 #[.agg #[.int .i64 a, .int .u64 b]] w fun e w' => e = .returned (.string ⟨(45 :: (T ++ (Z ++ S))).toArray⟩) ∧ Below w.heap.size w w' := by
  have HB := Below.refl w.heap.size w
  go_enter Tryd.func11, Tryd.ntmps11
  go_wp2_with fail
  go_region_held3 (fun w' => w'.cell? ⟨w.heap.size, 0, none⟩ = some (.int .i64 a) ∧ w'.cell? ⟨w.heap.size, 1, none⟩ = some (.int .u64 b)) ((repeat' apply And.intro) <;> go_simp) (fail)
  all_goals
    go_wp2_with (go_at_call 32; refine (k5 _).mono ?_; rintro e w1 ⟨rfl, hb⟩; (with_reducible (repeat replace hb := undr hb)); replace HB : Below w.heap.size w w1 := bt (by repeat (first | (with_reducible exact HB) | (with_reducible exact Below.refl _ _) | (with_reducible apply bd) | (with_reducible apply ba) | (with_reducible refine bs ?_ (by first | (simp; done) | (simp; omega)) _))) hb; clear hb)
    go_region_held3 (fun w' => w'.cell? ⟨w1.heap.size, 0, none⟩ = some (.int .i64 y) ∧ w'.cell? ⟨w1.heap.size, 1, none⟩ = some (.int .u64 l)) ((repeat' apply And.intro) <;> go_simp) (fail)
  all_goals
    go_wp2_with fail
    refine wp_loop_rounds 2 ?_
    rw [rounds_succ]
    go_wp2_with (first | (go_at_call 33; refine (k1 _).mono ?_; rintro e w1 ⟨rfl, rfl⟩) | (go_at_call 35; refine (k3 _).mono ?_; rintro e w1 ⟨rfl, hb⟩; (with_reducible (repeat replace hb := undr hb)); replace HB : Below w.heap.size w w1 := bt (by repeat (first | (with_reducible exact HB) | (with_reducible exact Below.refl _ _) | (with_reducible apply bd) | (with_reducible apply ba) | (with_reducible refine bs ?_ (by first | (simp; done) | (simp; omega)) _))) hb; clear hb) | (go_at_call 34; refine (k2 _ (tab_below htab (by repeat (first | (with_reducible exact HB) | (with_reducible exact Below.refl _ _) | (with_reducible apply bd) | (with_reducible apply ba) | (with_reducible refine bs ?_ (by first | (simp; done) | (simp; omega)) _))))).mono ?_; rintro e w1 ⟨rfl, hb⟩; (with_reducible (repeat replace hb := undr hb)); replace HB : Below w.heap.size w w1 := bt (by repeat (first | (with_reducible exact HB) | (with_reducible exact Below.refl _ _) | (with_reducible apply bd) | (with_reducible apply ba) | (with_reducible refine bs ?_ (by first | (simp; done) | (simp; omega)) _))) hb; clear hb))
    all_goals first | (exfalso; omega) | skip
    rw [rounds_succ]
    go_wp2_with (first | (go_at_call 34; refine (k4 _ (tab_below htab (by repeat (first | (with_reducible exact HB) | (with_reducible exact Below.refl _ _) | (with_reducible apply bd) | (with_reducible apply ba) | (with_reducible refine bs ?_ (by first | (simp; done) | (simp; omega)) _))))).mono ?_; rintro e w1 ⟨rfl, hb⟩; (with_reducible (repeat replace hb := undr hb)); replace HB : Below w.heap.size w w1 := bt (by repeat (first | (with_reducible exact HB) | (with_reducible exact Below.refl _ _) | (with_reducible apply bd) | (with_reducible apply ba) | (with_reducible refine bs ?_ (by first | (simp; done) | (simp; omega)) _))) hb; clear hb))
    all_goals first
      | (exfalso; omega)
      | (go_ret
         refine ⟨rs ?_, by repeat (first | (with_reducible exact HB) | (with_reducible exact Below.refl _ _) | (with_reducible apply bd) | (with_reducible apply ba) | (with_reducible refine bs ?_ (by first | (simp; done) | (simp; omega)) _))⟩
         (try simp only [catB]); simp)

end Go.Proofs.YtkamnnkdadfebaaDoor
