import Derived.Test.YtandgbpbabmdfaaT6
import Derived.Laws.StructEq
namespace Go.Proofs.Ytandgbpbabmdfaa
open Go.RowKit

section
variable {P : Program} {d : Nat} {xs ys : Array Value} {f : Field} {fs : List Field} {u v : Value} {r s : Bool} {w : World}
/-- Two structs, field by field: one field, then the others. -/
theorem eqMore (hn : f.name ≠ "_") (h1 : (part f.type xs f.offset).run P w = .ok u w) (h2 : (part f.type ys f.offset).run P w = .ok v w) (h3 : (Op.equalIn d f.type u v).run P w = .ok r w)
    (h4 : (Op.eqFields d xs ys fs).run P w = .ok s w) : (Op.eqFields d xs ys (f :: fs)).run P w = .ok (r && s) w := by
  rw [Op.eqFields]
  simp only [if_pos hn, Sem.run_bind, h1, h2, h3, Result.andThen_ok]
  cases r
  · simp
  · simpa using h4
theorem eqLast (hn : f.name ≠ "_") (h1 : (part f.type xs f.offset).run P w = .ok u w) (h2 : (part f.type ys f.offset).run P w = .ok v w) (h3 : (Op.equalIn d f.type u v).run P w = .ok r w) : (Op.eqFields d xs ys [f]).run P w = .ok r w := by
  have h := eqMore (fs := []) (s := true) hn h1 h2 h3 (by simp [Op.eqFields])
  rwa [Bool.and_true] at h
theorem eqWhole {t : TypeId} {gs : Array Field} (hu : P.underlying t = some (.struct gs)) (hp : P.stoodInHeld t = false) (h : (Op.eqFields d xs ys gs.toList).run P w = .ok r w) : (Op.equalIn (d + 1) t (.agg xs) (.agg ys)).run P w = .ok r w := by
  have hf : P.fieldsOf t = gs := by simp [Program.fieldsOf, hu]
  rw [run_equalIn_struct (P := P) w d t xs ys (by rw [hf]; exact hu) hp, hf]
  exact h
end

theorem eq23 (d : Nat) (w : World) (x0 x1 y0 y1 : Int) :
    (Op.equalIn (d + 2) 23 (.agg #[.int .i64 x0, .int .i64 x1]) (.agg #[.int .i64 y0, .int .i64 y1])).run Try.prog w = .ok (x0 == y0 && x1 == y1) w := by
  refine eqWhole Try.underlying23 (by kernel_rfl) ?_
  refine eqMore (by decide) (by go_simp; rfl) (by go_simp; rfl) (by go_simp) ?_
  exact eqLast (by decide) (by go_simp; rfl) (by go_simp; rfl) (by go_simp)

theorem eq25 (d : Nat) (w : World) (x0 x1 x2 x3 x4 x5 y0 y1 y2 y3 y4 y5 : Int) :
    (Op.equalIn (d + 3) 25 (.agg #[.int .i64 x0, .int .i64 x1, .int .i64 x2, .int .i64 x3, .int .i64 x4, .int .i64 x5]) (.agg #[.int .i64 y0, .int .i64 y1, .int .i64 y2, .int .i64 y3, .int .i64 y4, .int .i64 y5])).run Try.prog w =
      .ok ((x0 == y0 && x1 == y1) && ((x2 == y2 && x3 == y3) && (x4 == y4 && x5 == y5))) w := by
  refine eqWhole Try.underlying25 (by kernel_rfl) ?_
  refine eqMore (by decide) (by first | (go_simp; done) | (go_simp; rfl)) (by first | (go_simp; done) | (go_simp; rfl)) (eq23 _ _ _ _ _ _) ?_
  refine eqMore (by decide) (by first | (go_simp; done) | (go_simp; rfl)) (by first | (go_simp; done) | (go_simp; rfl)) (eq23 _ _ _ _ _ _) ?_
  exact eqLast (by decide) (by first | (go_simp; done) | (go_simp; rfl)) (by first | (go_simp; done) | (go_simp; rfl)) (eq23 _ _ _ _ _ _)

attribute [local go_sem high] eq23 eq25


set_option maxHeartbeats 1000000 in
set_option maxRecDepth 100000 in
theorem valT24 (a0 a1 b0 b1 c0 c1 : Int) (w : World) :
    Calls Try.prog 24 #[.agg #[.int .i64 a0, .int .i64 a1, .int .i64 b0, .int .i64 b1, .int .i64 c0, .int .i64 c1]] w fun e w' => e = .returned (.bool (valT ⟨⟨a0, a1⟩, ⟨b0, b1⟩, ⟨c0, c1⟩⟩)) ∧ Below w.heap.size w w' := by
  have hv := valT_bool a0 a1 b0 b1 c0 c1
  cases hm : (mkT ⟨a0, a1⟩ ⟨b0, b1⟩ ⟨c0, c1⟩).2 <;> rw [hm] at hv <;> replace hv := Lib.hid hv
  all_goals
    go_enter Try.func24, Try.ntmps24
    go_wp2_with (go_at_call 20; refine (make20 _ _ _ _ _ _ _).mono ?_; rw [hm]; rintro e w1 ⟨rfl, hb⟩; obtain ⟨hc, hf, hz⟩ := aft hb; have z0 : w.heap.size < w1.heap.size := (by simp at hz; omega); have n0 : ¬ w.heap.size = w1.heap.size := (by omega); clear hz)
    go_ret
    exact ⟨rb (by rw [hv.out]; simp), by repeat (first | (with_reducible exact Below.refl _ _) | (with_reducible assumption) | (with_reducible apply bd) | (with_reducible apply ba) | (with_reducible refine bs ?_ (by first | (simp; done) | (simp; omega)) _) | (with_reducible refine bt ?_ ‹_›))⟩

set_option maxHeartbeats 1000000 in
set_option maxRecDepth 100000 in
theorem valT25 (a0 a1 b0 b1 c0 c1 : Int) (w : World) :
    Calls Try.prog 25 #[.agg #[.int .i64 a0, .int .i64 a1, .int .i64 b0, .int .i64 b1, .int .i64 c0, .int .i64 c1]] w fun e w' => e = .returned (.bool (valT ⟨⟨a0, a1⟩, ⟨b0, b1⟩, ⟨c0, c1⟩⟩)) ∧ Below w.heap.size w w' := by
  have hv := valT_bool a0 a1 b0 b1 c0 c1
  cases hm : (mkT ⟨a0, a1⟩ ⟨b0, b1⟩ ⟨c0, c1⟩).2 <;> rw [hm] at hv <;> replace hv := Lib.hid hv
  all_goals
    go_enter Try.func25, Try.ntmps25
    go_wp2_with (go_at_call 21; refine (make21 _ _ _ _ _ _ _).mono ?_; rw [hm]; rintro e w1 ⟨rfl, hb⟩; obtain ⟨hc, hf, hz⟩ := aft hb; have z0 : w.heap.size < w1.heap.size := (by simp at hz; omega); have n0 : ¬ w.heap.size = w1.heap.size := (by omega); clear hz)
    go_ret
    exact ⟨rb (by rw [hv.out]; simp), by repeat (first | (with_reducible exact Below.refl _ _) | (with_reducible assumption) | (with_reducible apply bd) | (with_reducible apply ba) | (with_reducible refine bs ?_ (by first | (simp; done) | (simp; omega)) _) | (with_reducible refine bt ?_ ‹_›))⟩
end Go.Proofs.Ytandgbpbabmdfaa
