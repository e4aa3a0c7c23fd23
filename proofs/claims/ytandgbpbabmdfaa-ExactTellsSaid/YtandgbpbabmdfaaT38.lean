import Derived.Test.YtandgbpbabmdfaaT36
import Derived.Test.YtandgbpbabmdfaaT24
import Derived.IntWalk
namespace Go.Proofs.Ytandgbpbabmdfaa
open Go.RowKit
attribute [local go_sem high] eq23 eq25 mn_two mx_two mn_three mx_three mx_four

theorem words_in {v : Int} (h1 : -664613997892457936451903530140172288 ≤ v) (h2 : v ≤ 664613997892457936451903530140172288) : wrap64 (hiW v) = hiW v := wrap64_in (by unfold hiW; omega) (by unfold hiW; omega)
theorem add72b (u v : Int) (w : World) (h1 : -664613997892457936451903530140172288 ≤ u) (h2 : u ≤ 664613997892457936451903530140172288) (h3 : -664613997892457936451903530140172288 ≤ v) (h4 : v ≤ 664613997892457936451903530140172288) (h5 : -664613997892457936451903530140172288 ≤ u + v) (h6 : u + v ≤ 664613997892457936451903530140172288) :
    Calls Try.prog 72 #[.agg #[.int .i64 (hiW u), .int .u64 (loW u)], .agg #[.int .i64 (hiW v), .int .u64 (loW v)]] w fun e w' => e = .returned (.agg #[.int .i64 (hiW (u + v)), .int .u64 (loW (u + v))]) ∧ Below w.heap.size w w' := by
  have := add72 u v w
  rw [words_in h1 h2, words_in h3 h4, words_in h5 h6] at this; exact this
theorem neg73b (u : Int) (w : World) (h1 : -664613997892457936451903530140172288 ≤ u) (h2 : u ≤ 664613997892457936451903530140172288) :
    Calls Try.prog 73 #[.agg #[.int .i64 (hiW u), .int .u64 (loW u)]] w fun e w' => e = .returned (.agg #[.int .i64 (hiW (-u)), .int .u64 (loW (-u))]) ∧ Below w.heap.size w w' := by
  have := neg73 u w
  rw [words_in h1 h2, words_in (v := -u) (by omega) (by omega)] at this; exact this

theorem sgn_det (a0 a1 b0 b1 c0 c1 d0 d1 : Int) : (((a0 - d0) * (a0 - d0) + (a1 - d1) * (a1 - d1)) * ((b0 - d0) * (c1 - d1) - (c0 - d0) * (b1 - d1))) + -(((b0 - d0) * (b0 - d0) + (b1 - d1) * (b1 - d1)) * ((a0 - d0) * (c1 - d1) - (c0 - d0) * (a1 - d1))) + (((c0 - d0) * (c0 - d0) + (c1 - d1) * (c1 - d1)) * ((a0 - d0) * (b1 - d1) - (b0 - d0) * (a1 - d1))) = det ⟨a0, a1⟩ ⟨b0, b1⟩ ⟨c0, c1⟩ ⟨d0, d1⟩ := by unfold det sq crs; dsimp only; grind

theorem C54_of (a0 a1 b0 b1 c0 c1 d0 d1 : Int) (va : val ⟨a0, a1⟩ = true) (vb : val ⟨b0, b1⟩ = true) (vc : val ⟨c0, c1⟩ = true) (vd : val ⟨d0, d1⟩ = true) : C54 a0 a1 b0 b1 c0 c1 d0 d1 (cmpI (det ⟨a0, a1⟩ ⟨b0, b1⟩ ⟨c0, c1⟩ ⟨d0, d1⟩) 0) := by
  obtain ⟨va1, va2, va3, va4⟩ := val_xy va
  obtain ⟨vb1, vb2, vb3, vb4⟩ := val_xy vb
  obtain ⟨vc1, vc2, vc3, vc4⟩ := val_xy vc
  obtain ⟨vd1, vd2, vd3, vd4⟩ := val_xy vd
  have hs := sgn_det a0 a1 b0 b1 c0 c1 d0 d1
  have M1 := mul_bd (a := (a0 - d0)) (b := (a0 - d0)) (by omega) (by omega) (by omega) (by omega)
  have M2 := mul_bd (a := (a1 - d1)) (b := (a1 - d1)) (by omega) (by omega) (by omega) (by omega)
  have M3 := mul_bd (a := (b0 - d0)) (b := (b0 - d0)) (by omega) (by omega) (by omega) (by omega)
  have M4 := mul_bd (a := (b1 - d1)) (b := (b1 - d1)) (by omega) (by omega) (by omega) (by omega)
  have M5 := mul_bd (a := (c0 - d0)) (b := (c0 - d0)) (by omega) (by omega) (by omega) (by omega)
  have M6 := mul_bd (a := (c1 - d1)) (b := (c1 - d1)) (by omega) (by omega) (by omega) (by omega)
  have M7 := mul_bd (a := (b0 - d0)) (b := (c1 - d1)) (by omega) (by omega) (by omega) (by omega)
  have M8 := mul_bd (a := (c0 - d0)) (b := (b1 - d1)) (by omega) (by omega) (by omega) (by omega)
  have M9 := mul_bd (a := (a0 - d0)) (b := (c1 - d1)) (by omega) (by omega) (by omega) (by omega)
  have M10 := mul_bd (a := (c0 - d0)) (b := (a1 - d1)) (by omega) (by omega) (by omega) (by omega)
  have M11 := mul_bd (a := (a0 - d0)) (b := (b1 - d1)) (by omega) (by omega) (by omega) (by omega)
  have M12 := mul_bd (a := (b0 - d0)) (b := (a1 - d1)) (by omega) (by omega) (by omega) (by omega)
  have Qg := sq_bd (x := (a0 - d0)) (y := (a1 - d1)) (by omega) (by omega) (by omega) (by omega)
  have Qp := sq_bd (x := (b0 - d0)) (y := (b1 - d1)) (by omega) (by omega) (by omega) (by omega)
  have Qr := sq_bd (x := (c0 - d0)) (y := (c1 - d1)) (by omega) (by omega) (by omega) (by omega)
  have Zg := big_bd (m := ((a0 - d0) * (a0 - d0) + (a1 - d1) * (a1 - d1))) (n := ((b0 - d0) * (c1 - d1) - (c0 - d0) * (b1 - d1))) Qg.1 Qg.2 (by omega) (by omega)
  have Zp := big_bd (m := ((b0 - d0) * (b0 - d0) + (b1 - d1) * (b1 - d1))) (n := ((a0 - d0) * (c1 - d1) - (c0 - d0) * (a1 - d1))) Qp.1 Qp.2 (by omega) (by omega)
  have Zr := big_bd (m := ((c0 - d0) * (c0 - d0) + (c1 - d1) * (c1 - d1))) (n := ((a0 - d0) * (b1 - d1) - (b0 - d0) * (a1 - d1))) Qr.1 Qr.2 (by omega) (by omega)
  exact ⟨(a0 - d0), (a1 - d1), (b0 - d0), (b1 - d1), (c0 - d0), (c1 - d1), ((a0 - d0) * (a0 - d0)), ((a1 - d1) * (a1 - d1)), ((a0 - d0) * (a0 - d0) + (a1 - d1) * (a1 - d1)), ((b0 - d0) * (c1 - d1)), ((c0 - d0) * (b1 - d1)), ((b0 - d0) * (c1 - d1) - (c0 - d0) * (b1 - d1)), hiW (((a0 - d0) * (a0 - d0) + (a1 - d1) * (a1 - d1)) * ((b0 - d0) * (c1 - d1) - (c0 - d0) * (b1 - d1))), loW (((a0 - d0) * (a0 - d0) + (a1 - d1) * (a1 - d1)) * ((b0 - d0) * (c1 - d1) - (c0 - d0) * (b1 - d1))), ((b0 - d0) * (b0 - d0)), ((b1 - d1) * (b1 - d1)), ((b0 - d0) * (b0 - d0) + (b1 - d1) * (b1 - d1)), ((a0 - d0) * (c1 - d1)), ((c0 - d0) * (a1 - d1)), ((a0 - d0) * (c1 - d1) - (c0 - d0) * (a1 - d1)), hiW (((b0 - d0) * (b0 - d0) + (b1 - d1) * (b1 - d1)) * ((a0 - d0) * (c1 - d1) - (c0 - d0) * (a1 - d1))), loW (((b0 - d0) * (b0 - d0) + (b1 - d1) * (b1 - d1)) * ((a0 - d0) * (c1 - d1) - (c0 - d0) * (a1 - d1))), hiW (-(((b0 - d0) * (b0 - d0) + (b1 - d1) * (b1 - d1)) * ((a0 - d0) * (c1 - d1) - (c0 - d0) * (a1 - d1)))), loW (-(((b0 - d0) * (b0 - d0) + (b1 - d1) * (b1 - d1)) * ((a0 - d0) * (c1 - d1) - (c0 - d0) * (a1 - d1)))), hiW ((((a0 - d0) * (a0 - d0) + (a1 - d1) * (a1 - d1)) * ((b0 - d0) * (c1 - d1) - (c0 - d0) * (b1 - d1))) + -(((b0 - d0) * (b0 - d0) + (b1 - d1) * (b1 - d1)) * ((a0 - d0) * (c1 - d1) - (c0 - d0) * (a1 - d1)))), loW ((((a0 - d0) * (a0 - d0) + (a1 - d1) * (a1 - d1)) * ((b0 - d0) * (c1 - d1) - (c0 - d0) * (b1 - d1))) + -(((b0 - d0) * (b0 - d0) + (b1 - d1) * (b1 - d1)) * ((a0 - d0) * (c1 - d1) - (c0 - d0) * (a1 - d1)))), ((c0 - d0) * (c0 - d0)), ((c1 - d1) * (c1 - d1)), ((c0 - d0) * (c0 - d0) + (c1 - d1) * (c1 - d1)), ((a0 - d0) * (b1 - d1)), ((b0 - d0) * (a1 - d1)), ((a0 - d0) * (b1 - d1) - (b0 - d0) * (a1 - d1)), hiW (((c0 - d0) * (c0 - d0) + (c1 - d1) * (c1 - d1)) * ((a0 - d0) * (b1 - d1) - (b0 - d0) * (a1 - d1))), loW (((c0 - d0) * (c0 - d0) + (c1 - d1) * (c1 - d1)) * ((a0 - d0) * (b1 - d1) - (b0 - d0) * (a1 - d1))), hiW ((((a0 - d0) * (a0 - d0) + (a1 - d1) * (a1 - d1)) * ((b0 - d0) * (c1 - d1) - (c0 - d0) * (b1 - d1))) + -(((b0 - d0) * (b0 - d0) + (b1 - d1) * (b1 - d1)) * ((a0 - d0) * (c1 - d1) - (c0 - d0) * (a1 - d1))) + (((c0 - d0) * (c0 - d0) + (c1 - d1) * (c1 - d1)) * ((a0 - d0) * (b1 - d1) - (b0 - d0) * (a1 - d1)))), loW ((((a0 - d0) * (a0 - d0) + (a1 - d1) * (a1 - d1)) * ((b0 - d0) * (c1 - d1) - (c0 - d0) * (b1 - d1))) + -(((b0 - d0) * (b0 - d0) + (b1 - d1) * (b1 - d1)) * ((a0 - d0) * (c1 - d1) - (c0 - d0) * (a1 - d1))) + (((c0 - d0) * (c0 - d0) + (c1 - d1) * (c1 - d1)) * ((a0 - d0) * (b1 - d1) - (b0 - d0) * (a1 - d1)))), (IntWalk.i64_in _ (by omega)), (IntWalk.i64_in _ (by omega)), (IntWalk.i64_in _ (by omega)), (IntWalk.i64_in _ (by omega)), (IntWalk.i64_in _ (by omega)), (IntWalk.i64_in _ (by omega)), (IntWalk.i64_in _ (by omega)), (IntWalk.i64_in _ (by omega)), (IntWalk.i64_in _ (by omega)), (IntWalk.i64_in _ (by omega)), (IntWalk.i64_in _ (by omega)), (IntWalk.i64_in _ (by omega)), fun w => mul67 _ _ (by omega) (by omega) (by omega) (by omega) w, (IntWalk.i64_in _ (by omega)), (IntWalk.i64_in _ (by omega)), (IntWalk.i64_in _ (by omega)), (IntWalk.i64_in _ (by omega)), (IntWalk.i64_in _ (by omega)), (IntWalk.i64_in _ (by omega)), fun w => mul67 _ _ (by omega) (by omega) (by omega) (by omega) w, fun w => neg73b _ w (by omega) (by omega), fun w => add72b _ _ w (by omega) (by omega) (by omega) (by omega) (by omega) (by omega), (IntWalk.i64_in _ (by omega)), (IntWalk.i64_in _ (by omega)), (IntWalk.i64_in _ (by omega)), (IntWalk.i64_in _ (by omega)), (IntWalk.i64_in _ (by omega)), (IntWalk.i64_in _ (by omega)), fun w => mul67 _ _ (by omega) (by omega) (by omega) (by omega) w, fun w => add72b _ _ w (by omega) (by omega) (by omega) (by omega) (by omega) (by omega), fun w => by have := sign74 ((((a0 - d0) * (a0 - d0) + (a1 - d1) * (a1 - d1)) * ((b0 - d0) * (c1 - d1) - (c0 - d0) * (b1 - d1))) + -(((b0 - d0) * (b0 - d0) + (b1 - d1) * (b1 - d1)) * ((a0 - d0) * (c1 - d1) - (c0 - d0) * (a1 - d1))) + (((c0 - d0) * (c0 - d0) + (c1 - d1) * (c1 - d1)) * ((a0 - d0) * (b1 - d1) - (b0 - d0) * (a1 - d1)))) w; rw [hs] at this ⊢; exact this⟩

theorem circ54_pos (a0 a1 b0 b1 c0 c1 d0 d1 : Int) (w : World) (ho : ori ⟨a0, a1⟩ ⟨b0, b1⟩ ⟨c0, c1⟩ = 1) (hv : val ⟨d0, d1⟩ = true) (e1 : (d0 == a0 && d1 == a1) = false) (e2 : (d0 == b0 && d1 == b1) = false) (e3 : (d0 == c0 && d1 == c1) = false) :
    Calls Try.prog 54 #[.agg #[.int .i64 a0, .int .i64 a1], .agg #[.int .i64 b0, .int .i64 b1], .agg #[.int .i64 c0, .int .i64 c1], .agg #[.int .i64 d0, .int .i64 d1]] w fun e w' => e = .returned (.int .i64 (circP ⟨a0, a1⟩ ⟨b0, b1⟩ ⟨c0, c1⟩ ⟨d0, d1⟩)) ∧ Below w.heap.size w w' := by
  obtain ⟨va, vb, vc⟩ := ori_vals (a := ⟨a0, a1⟩) (b := ⟨b0, b1⟩) (c := ⟨c0, c1⟩) (by omega)
  obtain ⟨nab, nbc, nac⟩ := ori_ne (a := ⟨a0, a1⟩) (b := ⟨b0, b1⟩) (c := ⟨c0, c1⟩) (by omega)
  have nda := nbeq_pt e1
  have ndb := nbeq_pt e2
  have ndc := nbeq_pt e3
  have H := C54_of a0 a1 b0 b1 c0 c1 d0 d1 va vb vc hv
  unfold circP
  by_cases hk : cmpI (det ⟨a0, a1⟩ ⟨b0, b1⟩ ⟨c0, c1⟩ ⟨d0, d1⟩) 0 = 0
  case neg =>
    rw [if_neg hk]
    exact circ54_f a0 a1 b0 b1 c0 c1 d0 d1 _ w H ho hv e1 e2 e3 (beq_eq_false_iff_ne.2 hk)
  rw [if_pos hk]
  rw [hk] at H
  exact circ54_g a0 a1 b0 b1 c0 c1 d0 d1 w H ho hv e1 e2 e3 nda ndb ndc nab nbc nac

/-- The reference's Circle. -/
theorem circ54 (a0 a1 b0 b1 c0 c1 d0 d1 : Int) (w : World) :
    Calls Try.prog 54 #[.agg #[.int .i64 a0, .int .i64 a1], .agg #[.int .i64 b0, .int .i64 b1], .agg #[.int .i64 c0, .int .i64 c1], .agg #[.int .i64 d0, .int .i64 d1]] w fun e w' => e = .returned (.int .i64 (circ ⟨a0, a1⟩ ⟨b0, b1⟩ ⟨c0, c1⟩ ⟨d0, d1⟩)) ∧ Below w.heap.size w w' := by
  by_cases hz : ori ⟨a0, a1⟩ ⟨b0, b1⟩ ⟨c0, c1⟩ = 0
  · rw [circ_line hz]; exact circ54_a a0 a1 b0 b1 c0 c1 d0 d1 w hz
  have hz' : (ori ⟨a0, a1⟩ ⟨b0, b1⟩ ⟨c0, c1⟩ == 0) = false := beq_eq_false_iff_ne.2 hz
  cases hv : val ⟨d0, d1⟩
  · rw [(circ_zero hz).2 (.inr (.inr (.inr hv)))]; exact circ54_b a0 a1 b0 b1 c0 c1 d0 d1 _ w rfl hz' hv
  cases e1 : (d0 == a0 && d1 == a1)
  · cases e2 : (d0 == b0 && d1 == b1)
    · cases e3 : (d0 == c0 && d1 == c1)
      · rcases ori_cases ⟨a0, a1⟩ ⟨b0, b1⟩ ⟨c0, c1⟩ with h | h | h
        · exact absurd h hz
        · rw [circ_P h hv (nbeq_pt e1) (nbeq_pt e2) (nbeq_pt e3)]
          exact circ54_pos a0 a1 b0 b1 c0 c1 d0 d1 w h hv e1 e2 e3
        · have e : circ ⟨a0, a1⟩ ⟨b0, b1⟩ ⟨c0, c1⟩ ⟨d0, d1⟩ = -circP ⟨a0, a1⟩ ⟨c0, c1⟩ ⟨b0, b1⟩ ⟨d0, d1⟩ := by
            unfold circ
            rw [if_neg (by rintro (k | k | k | k | k) <;> first | omega | (rw [hv] at k; cases k) | exact nbeq_pt e1 k | exact nbeq_pt e2 k | exact nbeq_pt e3 k), if_pos (by omega)]
          rw [e]
          have s := ori_swap2 ⟨a0, a1⟩ ⟨b0, b1⟩ ⟨c0, c1⟩
          refine circ54_h a0 a1 b0 b1 c0 c1 d0 d1 _ w h hv e1 e2 e3 (fun w => circ54_pos a0 a1 c0 c1 b0 b1 d0 d1 w (by omega) hv e1 e3 e2) ?_
          rcases circP_cases ⟨a0, a1⟩ ⟨c0, c1⟩ ⟨b0, b1⟩ ⟨d0, d1⟩ with k | k | k <;> rw [k] <;> rfl
      · rw [(circ_zero hz).2 (.inr (.inr (.inl (beq_pt e3))))]; exact circ54_e a0 a1 b0 b1 c0 c1 d0 d1 _ w rfl hz' hv e1 e2 e3
    · rw [(circ_zero hz).2 (.inr (.inl (beq_pt e2)))]; exact circ54_d a0 a1 b0 b1 c0 c1 d0 d1 _ w rfl hz' hv e1 e2
  · rw [(circ_zero hz).2 (.inl (beq_pt e1))]; exact circ54_c a0 a1 b0 b1 c0 c1 d0 d1 _ w rfl hz' hv e1

end Go.Proofs.Ytandgbpbabmdfaa
