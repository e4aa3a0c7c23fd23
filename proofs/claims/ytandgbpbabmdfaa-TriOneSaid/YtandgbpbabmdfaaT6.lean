import Derived.Test.YtandgbpbabmdfaaT5
import Derived.Deep.LoopGhost
namespace Go.Proofs.Ytandgbpbabmdfaa
open Go.RowKit

/-- What holds of the loop that turns three points: at blocks n, n + 1, n + 2, and where the result lies. -/
def MkRel (w : World) (res : Tr) (kq : Nat) (wr : World) : Prop :=
  ∃ p0 p1 q0 q1 r0 r1 : Int, (wr.cell? ⟨w.heap.size, 0, none⟩ = some (.int .i64 p0) ∧ wr.cell? ⟨w.heap.size, 1, none⟩ = some (.int .i64 p1) ∧
    wr.cell? ⟨w.heap.size + 1, 0, none⟩ = some (.int .i64 q0) ∧ wr.cell? ⟨w.heap.size + 1, 1, none⟩ = some (.int .i64 q1) ∧
    wr.cell? ⟨w.heap.size + 1 + 1, 0, none⟩ = some (.int .i64 r0) ∧ wr.cell? ⟨w.heap.size + 1 + 1, 1, none⟩ = some (.int .i64 r1)) ∧
    (wr.cell? ⟨w.heap.size + 1 + 1 + 1, 0, none⟩ = some (.int .i64 0) ∧ wr.cell? ⟨w.heap.size + 1 + 1 + 1, 1, none⟩ = some (.int .i64 0) ∧ wr.cell? ⟨w.heap.size + 1 + 1 + 1, 2, none⟩ = some (.int .i64 0) ∧
    wr.cell? ⟨w.heap.size + 1 + 1 + 1, 3, none⟩ = some (.int .i64 0) ∧ wr.cell? ⟨w.heap.size + 1 + 1 + 1, 4, none⟩ = some (.int .i64 0) ∧ wr.cell? ⟨w.heap.size + 1 + 1 + 1, 5, none⟩ = some (.int .i64 0)) ∧
    (∀ b o, w.heap.size ≤ b → b < w.heap.size + 1 + 1 + 1 + 1 → wr.frozen? ⟨b, o, none⟩ = false) ∧
    Below w.heap.size w wr ∧ Hid (rotk kq ⟨p0, p1⟩ ⟨q0, q1⟩ ⟨r0, r1⟩ = some res)

set_option maxHeartbeats 1000000 in
set_option maxRecDepth 100000 in
theorem make20_zero (a0 a1 b0 b1 c0 c1 : Int) (w : World) (h : ori ⟨a0, a1⟩ ⟨b0, b1⟩ ⟨c0, c1⟩ = 0) :
    Calls Try.prog 20 #[.agg #[.int .i64 a0, .int .i64 a1], .agg #[.int .i64 b0, .int .i64 b1], .agg #[.int .i64 c0, .int .i64 c1]] w fun e w' =>
      e = .returned (.tuple #[.agg #[.int .i64 0, .int .i64 0, .int .i64 0, .int .i64 0, .int .i64 0, .int .i64 0], .bool false]) ∧ Below w.heap.size w w' := by
  replace h := Lib.hid h
  go_enter Try.func20, Try.ntmps20
  go_wp2_with (go_at_call 52; refine (ori52 _ _ _ _ _ _ _).mono ?_; rw [h.out]; rintro e w1 ⟨rfl, hb⟩; obtain ⟨hc, hf, hz⟩ := aft hb)
  (try simp only [Exit.inBlock, Exit.then])
  refine bodyPost_ret (v := .tuple #[.agg #[.int .i64 0, .int .i64 0, .int .i64 0, .int .i64 0, .int .i64 0, .int .i64 0], .bool false]) ?_ ?_ ?_
  · simp [results, Try.results20, go_sem, hc]
  · rfl
  refine ⟨rfl, ?_⟩
  simp at hz
  repeat (first | (with_reducible exact Below.refl _ _) | (with_reducible assumption) | (with_reducible apply bd) | (with_reducible apply ba) | (with_reducible refine bs ?_ (by first | (simp; done) | (simp; omega)) _) | (with_reducible refine bt ?_ ‹_›))

set_option maxHeartbeats 1000000 in
set_option maxRecDepth 100000 in
theorem make20_one (a0 a1 b0 b1 c0 c1 : Int) (res : Tr) (w : World) (h : ori ⟨a0, a1⟩ ⟨b0, b1⟩ ⟨c0, c1⟩ = 1) (hr : rotk 3 ⟨a0, a1⟩ ⟨b0, b1⟩ ⟨c0, c1⟩ = some res) :
    Calls Try.prog 20 #[.agg #[.int .i64 a0, .int .i64 a1], .agg #[.int .i64 b0, .int .i64 b1], .agg #[.int .i64 c0, .int .i64 c1]] w fun e w' =>
      e = .returned (.tuple #[.agg #[.int .i64 res.a.x, .int .i64 res.a.y, .int .i64 res.b.x, .int .i64 res.b.y, .int .i64 res.c.x, .int .i64 res.c.y], .bool true]) ∧ Below w.heap.size w w' := by
  replace h := Lib.hid h
  replace hr := Lib.hid hr
  go_enter Try.func20, Try.ntmps20
  go_wp2_with (go_at_call 52; refine (ori52 _ _ _ _ _ _ _).mono ?_; rw [h.out]; rintro e w1 ⟨rfl, hb⟩; obtain ⟨hc, hf, hz⟩ := aft hb)
  have hz0 := hz
  simp at hz0
  go_loopg [] 3 (fun kq wr => MkRel w res kq wr)
  case atStart =>
    refine ⟨a0, a1, b0, b1, c0, c1, ⟨?_, ?_, ?_, ?_, ?_, ?_⟩, ⟨?_, ?_, ?_, ?_, ?_, ?_⟩, ?_, ?_, hr⟩
    all_goals try (go_simp; done)
    · intro b o h1 h2
      rcases (by omega : b = w.heap.size ∨ b = w.heap.size + 1 ∨ b = w.heap.size + 1 + 1 ∨ b = w.heap.size + 1 + 1 + 1) with e | e | e | e <;> (subst e; go_simp)
    · repeat (first | (with_reducible exact Below.refl _ _) | (with_reducible assumption) | (with_reducible apply bd) | (with_reducible apply ba) | (with_reducible refine bs ?_ (by first | (simp; done) | (simp; omega)) _) | (with_reducible refine bt ?_ ‹_›))
  case round =>
    clear hc hf hz hb hr h
    obtain ⟨p0, p1, q0, q1, r0, r1, ⟨c1, c2, c3, c4, c5, c6⟩, ⟨d1, d2, d3, d4, d5, d6⟩, fz, HB, hr⟩ := hrel
    have f1 := fun o => fz w.heap.size o (by omega) (by omega)
    have f2 := fun o => fz (w.heap.size + 1) o (by omega) (by omega)
    have f3 := fun o => fz (w.heap.size + 1 + 1) o (by omega) (by omega)
    have f4 := fun o => fz (w.heap.size + 1 + 1 + 1) o (by omega) (by omega)
    have z4 := World.block_lt_of_cell? wr _ d1
    simp only at z4
    clear fz hz0
    cases gk with
    | zero => exact absurd hr.out (by simp [rotk])
    | succ k1 =>
      have hr0 := hr.out
      clear hr
      unfold rotk at hr0
      by_cases g1 : cmpP ⟨p0, p1⟩ ⟨q0, q1⟩ > 0
      · rw [if_pos g1] at hr0
        replace hr0 := Lib.hid hr0
        have b1 : decide (0 < cmpP ⟨p0, p1⟩ ⟨q0, q1⟩) = true := decide_eq_true (by first | exact g1 | (rw [cmpP_anti]; omega))
        clear g1
        go_wp2_with (go_at_call 50; refine (cmp50 _ _ _ _ _).mono ?_; rintro e w2 ⟨rfl, hb⟩; replace c1 := ck hb c1; replace c2 := ck hb c2; replace c3 := ck hb c3; replace c4 := ck hb c4; replace c5 := ck hb c5; replace c6 := ck hb c6; replace d1 := ck hb d1; replace d2 := ck hb d2; replace d3 := ck hb d3; replace d4 := ck hb d4; replace d5 := ck hb d5; replace d6 := ck hb d6; replace f1 := fun o => (hb.frozen (p := ⟨_, o, none⟩) (by simp; omega)).trans (f1 o); replace f2 := fun o => (hb.frozen (p := ⟨_, o, none⟩) (by simp; omega)).trans (f2 o); replace f3 := fun o => (hb.frozen (p := ⟨_, o, none⟩) (by simp; omega)).trans (f3 o); replace f4 := fun o => (hb.frozen (p := ⟨_, o, none⟩) (by simp; omega)).trans (f4 o); replace HB := bt HB hb; replace z4 := Nat.lt_of_lt_of_le z4 hb.size; clear hb)
        go_region
        all_goals
          go_wp2
          go_roundg k1
          case measure => omega
          case rel =>
            refine ⟨q0, q1, r0, r1, p0, p1, ⟨?_, ?_, ?_, ?_, ?_, ?_⟩, ⟨?_, ?_, ?_, ?_, ?_, ?_⟩, ?_, ?_, hr0⟩
            all_goals try (go_simp; done)
            · intro b o h1 h2
              rcases (by omega : b = w.heap.size ∨ b = w.heap.size + 1 ∨ b = w.heap.size + 1 + 1 ∨ b = w.heap.size + 1 + 1 + 1) with e | e | e | e <;> (subst e; go_simp)
            · repeat (first | (with_reducible exact Below.refl _ _) | (with_reducible assumption) | (with_reducible apply bd) | (with_reducible apply ba) | (with_reducible refine bs ?_ (by first | (simp; done) | (simp; omega)) _) | (with_reducible refine bt ?_ ‹_›))
      · rw [if_neg g1] at hr0
        have b1 : decide (0 < cmpP ⟨p0, p1⟩ ⟨q0, q1⟩) = false := decide_eq_false (by first | exact g1 | (rw [cmpP_anti]; omega))
        by_cases g2 : cmpP ⟨p0, p1⟩ ⟨r0, r1⟩ > 0
        · rw [if_pos g2] at hr0
          replace hr0 := Lib.hid hr0
          have b2 : decide (0 < cmpP ⟨p0, p1⟩ ⟨r0, r1⟩) = true := decide_eq_true (by first | exact g2 | (rw [cmpP_anti]; omega))
          clear g1 g2
          go_wp2_with (go_at_call 50; refine (cmp50 _ _ _ _ _).mono ?_; rintro e w2 ⟨rfl, hb⟩; replace c1 := ck hb c1; replace c2 := ck hb c2; replace c3 := ck hb c3; replace c4 := ck hb c4; replace c5 := ck hb c5; replace c6 := ck hb c6; replace d1 := ck hb d1; replace d2 := ck hb d2; replace d3 := ck hb d3; replace d4 := ck hb d4; replace d5 := ck hb d5; replace d6 := ck hb d6; replace f1 := fun o => (hb.frozen (p := ⟨_, o, none⟩) (by simp; omega)).trans (f1 o); replace f2 := fun o => (hb.frozen (p := ⟨_, o, none⟩) (by simp; omega)).trans (f2 o); replace f3 := fun o => (hb.frozen (p := ⟨_, o, none⟩) (by simp; omega)).trans (f3 o); replace f4 := fun o => (hb.frozen (p := ⟨_, o, none⟩) (by simp; omega)).trans (f4 o); replace HB := bt HB hb; replace z4 := Nat.lt_of_lt_of_le z4 hb.size; clear hb)
          go_region
          all_goals
            go_wp2
            go_roundg k1
            case measure => omega
            case rel =>
              refine ⟨q0, q1, r0, r1, p0, p1, ⟨?_, ?_, ?_, ?_, ?_, ?_⟩, ⟨?_, ?_, ?_, ?_, ?_, ?_⟩, ?_, ?_, hr0⟩
              all_goals try (go_simp; done)
              · intro b o h1 h2
                rcases (by omega : b = w.heap.size ∨ b = w.heap.size + 1 ∨ b = w.heap.size + 1 + 1 ∨ b = w.heap.size + 1 + 1 + 1) with e | e | e | e <;> (subst e; go_simp)
              · repeat (first | (with_reducible exact Below.refl _ _) | (with_reducible assumption) | (with_reducible apply bd) | (with_reducible apply ba) | (with_reducible refine bs ?_ (by first | (simp; done) | (simp; omega)) _) | (with_reducible refine bt ?_ ‹_›))
        · rw [if_neg g2] at hr0
          obtain rfl := Option.some.inj hr0
          have b2 : decide (0 < cmpP ⟨p0, p1⟩ ⟨r0, r1⟩) = false := decide_eq_false (by first | exact g2 | (rw [cmpP_anti]; omega))
          clear g1 g2 hr0
          go_wp2_with (go_at_call 50; refine (cmp50 _ _ _ _ _).mono ?_; rintro e w2 ⟨rfl, hb⟩; replace c1 := ck hb c1; replace c2 := ck hb c2; replace c3 := ck hb c3; replace c4 := ck hb c4; replace c5 := ck hb c5; replace c6 := ck hb c6; replace d1 := ck hb d1; replace d2 := ck hb d2; replace d3 := ck hb d3; replace d4 := ck hb d4; replace d5 := ck hb d5; replace d6 := ck hb d6; replace f1 := fun o => (hb.frozen (p := ⟨_, o, none⟩) (by simp; omega)).trans (f1 o); replace f2 := fun o => (hb.frozen (p := ⟨_, o, none⟩) (by simp; omega)).trans (f2 o); replace f3 := fun o => (hb.frozen (p := ⟨_, o, none⟩) (by simp; omega)).trans (f3 o); replace f4 := fun o => (hb.frozen (p := ⟨_, o, none⟩) (by simp; omega)).trans (f4 o); replace HB := bt HB hb; replace z4 := Nat.lt_of_lt_of_le z4 hb.size; clear hb)
          (try simp only [Exit.inBlock, Exit.then])
          refine bodyPost_ret (v := .tuple #[.agg #[.int .i64 p0, .int .i64 p1, .int .i64 q0, .int .i64 q1, .int .i64 r0, .int .i64 r1], .bool true]) ?_ ?_ ?_
          · simp [results, Try.results20, go_sem, *]
          · rfl
          refine ⟨rfl, ?_⟩
          repeat (first | (with_reducible exact Below.refl _ _) | (with_reducible assumption) | (with_reducible apply bd) | (with_reducible apply ba) | (with_reducible refine bs ?_ (by first | (simp; done) | (simp; omega)) _) | (with_reducible refine bt ?_ ‹_›))

set_option maxHeartbeats 1000000 in
set_option maxRecDepth 100000 in
theorem make20_neg (a0 a1 b0 b1 c0 c1 : Int) (res : Tr) (w : World) (h : ori ⟨a0, a1⟩ ⟨b0, b1⟩ ⟨c0, c1⟩ = -1) (hr : rotk 3 ⟨a0, a1⟩ ⟨c0, c1⟩ ⟨b0, b1⟩ = some res) :
    Calls Try.prog 20 #[.agg #[.int .i64 a0, .int .i64 a1], .agg #[.int .i64 b0, .int .i64 b1], .agg #[.int .i64 c0, .int .i64 c1]] w fun e w' =>
      e = .returned (.tuple #[.agg #[.int .i64 res.a.x, .int .i64 res.a.y, .int .i64 res.b.x, .int .i64 res.b.y, .int .i64 res.c.x, .int .i64 res.c.y], .bool true]) ∧ Below w.heap.size w w' := by
  replace h := Lib.hid h
  replace hr := Lib.hid hr
  go_enter Try.func20, Try.ntmps20
  go_wp2_with (go_at_call 52; refine (ori52 _ _ _ _ _ _ _).mono ?_; rw [h.out]; rintro e w1 ⟨rfl, hb⟩; obtain ⟨hc, hf, hz⟩ := aft hb)
  have hz0 := hz
  simp at hz0
  go_loopg [] 3 (fun kq wr => MkRel w res kq wr)
  case atStart =>
    refine ⟨a0, a1, c0, c1, b0, b1, ⟨?_, ?_, ?_, ?_, ?_, ?_⟩, ⟨?_, ?_, ?_, ?_, ?_, ?_⟩, ?_, ?_, hr⟩
    all_goals try (go_simp; done)
    · intro b o h1 h2
      rcases (by omega : b = w.heap.size ∨ b = w.heap.size + 1 ∨ b = w.heap.size + 1 + 1 ∨ b = w.heap.size + 1 + 1 + 1) with e | e | e | e <;> (subst e; go_simp)
    · repeat (first | (with_reducible exact Below.refl _ _) | (with_reducible assumption) | (with_reducible apply bd) | (with_reducible apply ba) | (with_reducible refine bs ?_ (by first | (simp; done) | (simp; omega)) _) | (with_reducible refine bt ?_ ‹_›))
  case round =>
    clear hc hf hz hb hr h
    obtain ⟨p0, p1, q0, q1, r0, r1, ⟨c1, c2, c3, c4, c5, c6⟩, ⟨d1, d2, d3, d4, d5, d6⟩, fz, HB, hr⟩ := hrel
    have f1 := fun o => fz w.heap.size o (by omega) (by omega)
    have f2 := fun o => fz (w.heap.size + 1) o (by omega) (by omega)
    have f3 := fun o => fz (w.heap.size + 1 + 1) o (by omega) (by omega)
    have f4 := fun o => fz (w.heap.size + 1 + 1 + 1) o (by omega) (by omega)
    have z4 := World.block_lt_of_cell? wr _ d1
    simp only at z4
    clear fz hz0
    cases gk with
    | zero => exact absurd hr.out (by simp [rotk])
    | succ k1 =>
      have hr0 := hr.out
      clear hr
      unfold rotk at hr0
      by_cases g1 : cmpP ⟨p0, p1⟩ ⟨q0, q1⟩ > 0
      · rw [if_pos g1] at hr0
        replace hr0 := Lib.hid hr0
        have b1 : decide (0 < cmpP ⟨p0, p1⟩ ⟨q0, q1⟩) = true := decide_eq_true (by first | exact g1 | (rw [cmpP_anti]; omega))
        clear g1
        go_wp2_with (go_at_call 50; refine (cmp50 _ _ _ _ _).mono ?_; rintro e w2 ⟨rfl, hb⟩; replace c1 := ck hb c1; replace c2 := ck hb c2; replace c3 := ck hb c3; replace c4 := ck hb c4; replace c5 := ck hb c5; replace c6 := ck hb c6; replace d1 := ck hb d1; replace d2 := ck hb d2; replace d3 := ck hb d3; replace d4 := ck hb d4; replace d5 := ck hb d5; replace d6 := ck hb d6; replace f1 := fun o => (hb.frozen (p := ⟨_, o, none⟩) (by simp; omega)).trans (f1 o); replace f2 := fun o => (hb.frozen (p := ⟨_, o, none⟩) (by simp; omega)).trans (f2 o); replace f3 := fun o => (hb.frozen (p := ⟨_, o, none⟩) (by simp; omega)).trans (f3 o); replace f4 := fun o => (hb.frozen (p := ⟨_, o, none⟩) (by simp; omega)).trans (f4 o); replace HB := bt HB hb; replace z4 := Nat.lt_of_lt_of_le z4 hb.size; clear hb)
        go_region
        all_goals
          go_wp2
          go_roundg k1
          case measure => omega
          case rel =>
            refine ⟨q0, q1, r0, r1, p0, p1, ⟨?_, ?_, ?_, ?_, ?_, ?_⟩, ⟨?_, ?_, ?_, ?_, ?_, ?_⟩, ?_, ?_, hr0⟩
            all_goals try (go_simp; done)
            · intro b o h1 h2
              rcases (by omega : b = w.heap.size ∨ b = w.heap.size + 1 ∨ b = w.heap.size + 1 + 1 ∨ b = w.heap.size + 1 + 1 + 1) with e | e | e | e <;> (subst e; go_simp)
            · repeat (first | (with_reducible exact Below.refl _ _) | (with_reducible assumption) | (with_reducible apply bd) | (with_reducible apply ba) | (with_reducible refine bs ?_ (by first | (simp; done) | (simp; omega)) _) | (with_reducible refine bt ?_ ‹_›))
      · rw [if_neg g1] at hr0
        have b1 : decide (0 < cmpP ⟨p0, p1⟩ ⟨q0, q1⟩) = false := decide_eq_false (by first | exact g1 | (rw [cmpP_anti]; omega))
        by_cases g2 : cmpP ⟨p0, p1⟩ ⟨r0, r1⟩ > 0
        · rw [if_pos g2] at hr0
          replace hr0 := Lib.hid hr0
          have b2 : decide (0 < cmpP ⟨p0, p1⟩ ⟨r0, r1⟩) = true := decide_eq_true (by first | exact g2 | (rw [cmpP_anti]; omega))
          clear g1 g2
          go_wp2_with (go_at_call 50; refine (cmp50 _ _ _ _ _).mono ?_; rintro e w2 ⟨rfl, hb⟩; replace c1 := ck hb c1; replace c2 := ck hb c2; replace c3 := ck hb c3; replace c4 := ck hb c4; replace c5 := ck hb c5; replace c6 := ck hb c6; replace d1 := ck hb d1; replace d2 := ck hb d2; replace d3 := ck hb d3; replace d4 := ck hb d4; replace d5 := ck hb d5; replace d6 := ck hb d6; replace f1 := fun o => (hb.frozen (p := ⟨_, o, none⟩) (by simp; omega)).trans (f1 o); replace f2 := fun o => (hb.frozen (p := ⟨_, o, none⟩) (by simp; omega)).trans (f2 o); replace f3 := fun o => (hb.frozen (p := ⟨_, o, none⟩) (by simp; omega)).trans (f3 o); replace f4 := fun o => (hb.frozen (p := ⟨_, o, none⟩) (by simp; omega)).trans (f4 o); replace HB := bt HB hb; replace z4 := Nat.lt_of_lt_of_le z4 hb.size; clear hb)
          go_region
          all_goals
            go_wp2
            go_roundg k1
            case measure => omega
            case rel =>
              refine ⟨q0, q1, r0, r1, p0, p1, ⟨?_, ?_, ?_, ?_, ?_, ?_⟩, ⟨?_, ?_, ?_, ?_, ?_, ?_⟩, ?_, ?_, hr0⟩
              all_goals try (go_simp; done)
              · intro b o h1 h2
                rcases (by omega : b = w.heap.size ∨ b = w.heap.size + 1 ∨ b = w.heap.size + 1 + 1 ∨ b = w.heap.size + 1 + 1 + 1) with e | e | e | e <;> (subst e; go_simp)
              · repeat (first | (with_reducible exact Below.refl _ _) | (with_reducible assumption) | (with_reducible apply bd) | (with_reducible apply ba) | (with_reducible refine bs ?_ (by first | (simp; done) | (simp; omega)) _) | (with_reducible refine bt ?_ ‹_›))
        · rw [if_neg g2] at hr0
          obtain rfl := Option.some.inj hr0
          have b2 : decide (0 < cmpP ⟨p0, p1⟩ ⟨r0, r1⟩) = false := decide_eq_false (by first | exact g2 | (rw [cmpP_anti]; omega))
          clear g1 g2 hr0
          go_wp2_with (go_at_call 50; refine (cmp50 _ _ _ _ _).mono ?_; rintro e w2 ⟨rfl, hb⟩; replace c1 := ck hb c1; replace c2 := ck hb c2; replace c3 := ck hb c3; replace c4 := ck hb c4; replace c5 := ck hb c5; replace c6 := ck hb c6; replace d1 := ck hb d1; replace d2 := ck hb d2; replace d3 := ck hb d3; replace d4 := ck hb d4; replace d5 := ck hb d5; replace d6 := ck hb d6; replace f1 := fun o => (hb.frozen (p := ⟨_, o, none⟩) (by simp; omega)).trans (f1 o); replace f2 := fun o => (hb.frozen (p := ⟨_, o, none⟩) (by simp; omega)).trans (f2 o); replace f3 := fun o => (hb.frozen (p := ⟨_, o, none⟩) (by simp; omega)).trans (f3 o); replace f4 := fun o => (hb.frozen (p := ⟨_, o, none⟩) (by simp; omega)).trans (f4 o); replace HB := bt HB hb; replace z4 := Nat.lt_of_lt_of_le z4 hb.size; clear hb)
          (try simp only [Exit.inBlock, Exit.then])
          refine bodyPost_ret (v := .tuple #[.agg #[.int .i64 p0, .int .i64 p1, .int .i64 q0, .int .i64 q1, .int .i64 r0, .int .i64 r1], .bool true]) ?_ ?_ ?_
          · simp [results, Try.results20, go_sem, *]
          · rfl
          refine ⟨rfl, ?_⟩
          repeat (first | (with_reducible exact Below.refl _ _) | (with_reducible assumption) | (with_reducible apply bd) | (with_reducible apply ba) | (with_reducible refine bs ?_ (by first | (simp; done) | (simp; omega)) _) | (with_reducible refine bt ?_ ‹_›))

theorem make20 (a0 a1 b0 b1 c0 c1 : Int) (w : World) :
    Calls Try.prog 20 #[.agg #[.int .i64 a0, .int .i64 a1], .agg #[.int .i64 b0, .int .i64 b1], .agg #[.int .i64 c0, .int .i64 c1]] w fun e w' =>
      e = .returned (.tuple #[.agg #[.int .i64 (mkT ⟨a0, a1⟩ ⟨b0, b1⟩ ⟨c0, c1⟩).1.a.x, .int .i64 (mkT ⟨a0, a1⟩ ⟨b0, b1⟩ ⟨c0, c1⟩).1.a.y, .int .i64 (mkT ⟨a0, a1⟩ ⟨b0, b1⟩ ⟨c0, c1⟩).1.b.x, .int .i64 (mkT ⟨a0, a1⟩ ⟨b0, b1⟩ ⟨c0, c1⟩).1.b.y, .int .i64 (mkT ⟨a0, a1⟩ ⟨b0, b1⟩ ⟨c0, c1⟩).1.c.x, .int .i64 (mkT ⟨a0, a1⟩ ⟨b0, b1⟩ ⟨c0, c1⟩).1.c.y], .bool (mkT ⟨a0, a1⟩ ⟨b0, b1⟩ ⟨c0, c1⟩).2]) ∧ Below w.heap.size w w' := by
  rcases ori_cases ⟨a0, a1⟩ ⟨b0, b1⟩ ⟨c0, c1⟩ with h | h | h
  · have e : mkT ⟨a0, a1⟩ ⟨b0, b1⟩ ⟨c0, c1⟩ = (⟨⟨0, 0⟩, ⟨0, 0⟩, ⟨0, 0⟩⟩, false) := mkT_zero h
    rw [e]
    exact make20_zero a0 a1 b0 b1 c0 c1 w h
  · have e : mkT ⟨a0, a1⟩ ⟨b0, b1⟩ ⟨c0, c1⟩ = (rotT ⟨a0, a1⟩ ⟨b0, b1⟩ ⟨c0, c1⟩, true) := mkT_one h
    rw [e]
    exact make20_one a0 a1 b0 b1 c0 c1 _ w h (rotk_rotT _ _ _)
  · have e : mkT ⟨a0, a1⟩ ⟨b0, b1⟩ ⟨c0, c1⟩ = (rotT ⟨a0, a1⟩ ⟨c0, c1⟩ ⟨b0, b1⟩, true) := mkT_neg h
    rw [e]
    exact make20_neg a0 a1 b0 b1 c0 c1 _ w h (rotk_rotT _ _ _)

set_option maxHeartbeats 1000000 in
set_option maxRecDepth 100000 in
theorem make21_zero (a0 a1 b0 b1 c0 c1 : Int) (w : World) (h : ori ⟨a0, a1⟩ ⟨b0, b1⟩ ⟨c0, c1⟩ = 0) :
    Calls Try.prog 21 #[.agg #[.int .i64 a0, .int .i64 a1], .agg #[.int .i64 b0, .int .i64 b1], .agg #[.int .i64 c0, .int .i64 c1]] w fun e w' =>
      e = .returned (.tuple #[.agg #[.int .i64 0, .int .i64 0, .int .i64 0, .int .i64 0, .int .i64 0, .int .i64 0], .bool false]) ∧ Below w.heap.size w w' := by
  replace h := Lib.hid h
  go_enter Try.func21, Try.ntmps21
  go_wp2_with (go_at_call 37; refine (ori37 _ _ _ _ _ _ _).mono ?_; rw [h.out]; rintro e w1 ⟨rfl, hb⟩; obtain ⟨hc, hf, hz⟩ := aft hb)
  (try simp only [Exit.inBlock, Exit.then])
  refine bodyPost_ret (v := .tuple #[.agg #[.int .i64 0, .int .i64 0, .int .i64 0, .int .i64 0, .int .i64 0, .int .i64 0], .bool false]) ?_ ?_ ?_
  · simp [results, Try.results21, go_sem, hc]
  · rfl
  refine ⟨rfl, ?_⟩
  simp at hz
  repeat (first | (with_reducible exact Below.refl _ _) | (with_reducible assumption) | (with_reducible apply bd) | (with_reducible apply ba) | (with_reducible refine bs ?_ (by first | (simp; done) | (simp; omega)) _) | (with_reducible refine bt ?_ ‹_›))

set_option maxHeartbeats 1000000 in
set_option maxRecDepth 100000 in
theorem make21_one (a0 a1 b0 b1 c0 c1 : Int) (res : Tr) (w : World) (h : ori ⟨a0, a1⟩ ⟨b0, b1⟩ ⟨c0, c1⟩ = 1) (hr : rotk 3 ⟨a0, a1⟩ ⟨b0, b1⟩ ⟨c0, c1⟩ = some res) :
    Calls Try.prog 21 #[.agg #[.int .i64 a0, .int .i64 a1], .agg #[.int .i64 b0, .int .i64 b1], .agg #[.int .i64 c0, .int .i64 c1]] w fun e w' =>
      e = .returned (.tuple #[.agg #[.int .i64 res.a.x, .int .i64 res.a.y, .int .i64 res.b.x, .int .i64 res.b.y, .int .i64 res.c.x, .int .i64 res.c.y], .bool true]) ∧ Below w.heap.size w w' := by
  replace h := Lib.hid h
  replace hr := Lib.hid hr
  go_enter Try.func21, Try.ntmps21
  go_wp2_with (go_at_call 37; refine (ori37 _ _ _ _ _ _ _).mono ?_; rw [h.out]; rintro e w1 ⟨rfl, hb⟩; obtain ⟨hc, hf, hz⟩ := aft hb)
  have hz0 := hz
  simp at hz0
  go_loopg [] 3 (fun kq wr => MkRel w res kq wr)
  case atStart =>
    refine ⟨a0, a1, b0, b1, c0, c1, ⟨?_, ?_, ?_, ?_, ?_, ?_⟩, ⟨?_, ?_, ?_, ?_, ?_, ?_⟩, ?_, ?_, hr⟩
    all_goals try (go_simp; done)
    · intro b o h1 h2
      rcases (by omega : b = w.heap.size ∨ b = w.heap.size + 1 ∨ b = w.heap.size + 1 + 1 ∨ b = w.heap.size + 1 + 1 + 1) with e | e | e | e <;> (subst e; go_simp)
    · repeat (first | (with_reducible exact Below.refl _ _) | (with_reducible assumption) | (with_reducible apply bd) | (with_reducible apply ba) | (with_reducible refine bs ?_ (by first | (simp; done) | (simp; omega)) _) | (with_reducible refine bt ?_ ‹_›))
  case round =>
    clear hc hf hz hb hr h
    obtain ⟨p0, p1, q0, q1, r0, r1, ⟨c1, c2, c3, c4, c5, c6⟩, ⟨d1, d2, d3, d4, d5, d6⟩, fz, HB, hr⟩ := hrel
    have f1 := fun o => fz w.heap.size o (by omega) (by omega)
    have f2 := fun o => fz (w.heap.size + 1) o (by omega) (by omega)
    have f3 := fun o => fz (w.heap.size + 1 + 1) o (by omega) (by omega)
    have f4 := fun o => fz (w.heap.size + 1 + 1 + 1) o (by omega) (by omega)
    have z4 := World.block_lt_of_cell? wr _ d1
    simp only at z4
    clear fz hz0
    cases gk with
    | zero => exact absurd hr.out (by simp [rotk])
    | succ k1 =>
      have hr0 := hr.out
      clear hr
      unfold rotk at hr0
      by_cases g1 : cmpP ⟨p0, p1⟩ ⟨q0, q1⟩ > 0
      · rw [if_pos g1] at hr0
        replace hr0 := Lib.hid hr0
        have b1 : decide (cmpP ⟨q0, q1⟩ ⟨p0, p1⟩ < 0) = true := decide_eq_true (by first | exact g1 | (rw [cmpP_anti]; omega))
        clear g1
        go_wp2_with (go_at_call 51; refine (cmp51 _ _ _ _ _).mono ?_; rintro e w2 ⟨rfl, hb⟩; replace c1 := ck hb c1; replace c2 := ck hb c2; replace c3 := ck hb c3; replace c4 := ck hb c4; replace c5 := ck hb c5; replace c6 := ck hb c6; replace d1 := ck hb d1; replace d2 := ck hb d2; replace d3 := ck hb d3; replace d4 := ck hb d4; replace d5 := ck hb d5; replace d6 := ck hb d6; replace f1 := fun o => (hb.frozen (p := ⟨_, o, none⟩) (by simp; omega)).trans (f1 o); replace f2 := fun o => (hb.frozen (p := ⟨_, o, none⟩) (by simp; omega)).trans (f2 o); replace f3 := fun o => (hb.frozen (p := ⟨_, o, none⟩) (by simp; omega)).trans (f3 o); replace f4 := fun o => (hb.frozen (p := ⟨_, o, none⟩) (by simp; omega)).trans (f4 o); replace HB := bt HB hb; replace z4 := Nat.lt_of_lt_of_le z4 hb.size; clear hb)
        go_region
        all_goals
          go_wp2
          go_roundg k1
          case measure => omega
          case rel =>
            refine ⟨q0, q1, r0, r1, p0, p1, ⟨?_, ?_, ?_, ?_, ?_, ?_⟩, ⟨?_, ?_, ?_, ?_, ?_, ?_⟩, ?_, ?_, hr0⟩
            all_goals try (go_simp; done)
            · intro b o h1 h2
              rcases (by omega : b = w.heap.size ∨ b = w.heap.size + 1 ∨ b = w.heap.size + 1 + 1 ∨ b = w.heap.size + 1 + 1 + 1) with e | e | e | e <;> (subst e; go_simp)
            · repeat (first | (with_reducible exact Below.refl _ _) | (with_reducible assumption) | (with_reducible apply bd) | (with_reducible apply ba) | (with_reducible refine bs ?_ (by first | (simp; done) | (simp; omega)) _) | (with_reducible refine bt ?_ ‹_›))
      · rw [if_neg g1] at hr0
        have b1 : decide (cmpP ⟨q0, q1⟩ ⟨p0, p1⟩ < 0) = false := decide_eq_false (by first | exact g1 | (rw [cmpP_anti]; omega))
        by_cases g2 : cmpP ⟨p0, p1⟩ ⟨r0, r1⟩ > 0
        · rw [if_pos g2] at hr0
          replace hr0 := Lib.hid hr0
          have b2 : decide (cmpP ⟨r0, r1⟩ ⟨p0, p1⟩ < 0) = true := decide_eq_true (by first | exact g2 | (rw [cmpP_anti]; omega))
          clear g1 g2
          go_wp2_with (go_at_call 51; refine (cmp51 _ _ _ _ _).mono ?_; rintro e w2 ⟨rfl, hb⟩; replace c1 := ck hb c1; replace c2 := ck hb c2; replace c3 := ck hb c3; replace c4 := ck hb c4; replace c5 := ck hb c5; replace c6 := ck hb c6; replace d1 := ck hb d1; replace d2 := ck hb d2; replace d3 := ck hb d3; replace d4 := ck hb d4; replace d5 := ck hb d5; replace d6 := ck hb d6; replace f1 := fun o => (hb.frozen (p := ⟨_, o, none⟩) (by simp; omega)).trans (f1 o); replace f2 := fun o => (hb.frozen (p := ⟨_, o, none⟩) (by simp; omega)).trans (f2 o); replace f3 := fun o => (hb.frozen (p := ⟨_, o, none⟩) (by simp; omega)).trans (f3 o); replace f4 := fun o => (hb.frozen (p := ⟨_, o, none⟩) (by simp; omega)).trans (f4 o); replace HB := bt HB hb; replace z4 := Nat.lt_of_lt_of_le z4 hb.size; clear hb)
          go_region
          all_goals
            go_wp2
            go_roundg k1
            case measure => omega
            case rel =>
              refine ⟨q0, q1, r0, r1, p0, p1, ⟨?_, ?_, ?_, ?_, ?_, ?_⟩, ⟨?_, ?_, ?_, ?_, ?_, ?_⟩, ?_, ?_, hr0⟩
              all_goals try (go_simp; done)
              · intro b o h1 h2
                rcases (by omega : b = w.heap.size ∨ b = w.heap.size + 1 ∨ b = w.heap.size + 1 + 1 ∨ b = w.heap.size + 1 + 1 + 1) with e | e | e | e <;> (subst e; go_simp)
              · repeat (first | (with_reducible exact Below.refl _ _) | (with_reducible assumption) | (with_reducible apply bd) | (with_reducible apply ba) | (with_reducible refine bs ?_ (by first | (simp; done) | (simp; omega)) _) | (with_reducible refine bt ?_ ‹_›))
        · rw [if_neg g2] at hr0
          obtain rfl := Option.some.inj hr0
          have b2 : decide (cmpP ⟨r0, r1⟩ ⟨p0, p1⟩ < 0) = false := decide_eq_false (by first | exact g2 | (rw [cmpP_anti]; omega))
          clear g1 g2 hr0
          go_wp2_with (go_at_call 51; refine (cmp51 _ _ _ _ _).mono ?_; rintro e w2 ⟨rfl, hb⟩; replace c1 := ck hb c1; replace c2 := ck hb c2; replace c3 := ck hb c3; replace c4 := ck hb c4; replace c5 := ck hb c5; replace c6 := ck hb c6; replace d1 := ck hb d1; replace d2 := ck hb d2; replace d3 := ck hb d3; replace d4 := ck hb d4; replace d5 := ck hb d5; replace d6 := ck hb d6; replace f1 := fun o => (hb.frozen (p := ⟨_, o, none⟩) (by simp; omega)).trans (f1 o); replace f2 := fun o => (hb.frozen (p := ⟨_, o, none⟩) (by simp; omega)).trans (f2 o); replace f3 := fun o => (hb.frozen (p := ⟨_, o, none⟩) (by simp; omega)).trans (f3 o); replace f4 := fun o => (hb.frozen (p := ⟨_, o, none⟩) (by simp; omega)).trans (f4 o); replace HB := bt HB hb; replace z4 := Nat.lt_of_lt_of_le z4 hb.size; clear hb)
          (try simp only [Exit.inBlock, Exit.then])
          refine bodyPost_ret (v := .tuple #[.agg #[.int .i64 p0, .int .i64 p1, .int .i64 q0, .int .i64 q1, .int .i64 r0, .int .i64 r1], .bool true]) ?_ ?_ ?_
          · simp [results, Try.results21, go_sem, *]
          · rfl
          refine ⟨rfl, ?_⟩
          repeat (first | (with_reducible exact Below.refl _ _) | (with_reducible assumption) | (with_reducible apply bd) | (with_reducible apply ba) | (with_reducible refine bs ?_ (by first | (simp; done) | (simp; omega)) _) | (with_reducible refine bt ?_ ‹_›))

set_option maxHeartbeats 1000000 in
set_option maxRecDepth 100000 in
theorem make21_neg (a0 a1 b0 b1 c0 c1 : Int) (res : Tr) (w : World) (h : ori ⟨a0, a1⟩ ⟨b0, b1⟩ ⟨c0, c1⟩ = -1) (hr : rotk 3 ⟨a0, a1⟩ ⟨c0, c1⟩ ⟨b0, b1⟩ = some res) :
    Calls Try.prog 21 #[.agg #[.int .i64 a0, .int .i64 a1], .agg #[.int .i64 b0, .int .i64 b1], .agg #[.int .i64 c0, .int .i64 c1]] w fun e w' =>
      e = .returned (.tuple #[.agg #[.int .i64 res.a.x, .int .i64 res.a.y, .int .i64 res.b.x, .int .i64 res.b.y, .int .i64 res.c.x, .int .i64 res.c.y], .bool true]) ∧ Below w.heap.size w w' := by
  replace h := Lib.hid h
  replace hr := Lib.hid hr
  go_enter Try.func21, Try.ntmps21
  go_wp2_with (go_at_call 37; refine (ori37 _ _ _ _ _ _ _).mono ?_; rw [h.out]; rintro e w1 ⟨rfl, hb⟩; obtain ⟨hc, hf, hz⟩ := aft hb)
  have hz0 := hz
  simp at hz0
  go_loopg [] 3 (fun kq wr => MkRel w res kq wr)
  case atStart =>
    refine ⟨a0, a1, c0, c1, b0, b1, ⟨?_, ?_, ?_, ?_, ?_, ?_⟩, ⟨?_, ?_, ?_, ?_, ?_, ?_⟩, ?_, ?_, hr⟩
    all_goals try (go_simp; done)
    · intro b o h1 h2
      rcases (by omega : b = w.heap.size ∨ b = w.heap.size + 1 ∨ b = w.heap.size + 1 + 1 ∨ b = w.heap.size + 1 + 1 + 1) with e | e | e | e <;> (subst e; go_simp)
    · repeat (first | (with_reducible exact Below.refl _ _) | (with_reducible assumption) | (with_reducible apply bd) | (with_reducible apply ba) | (with_reducible refine bs ?_ (by first | (simp; done) | (simp; omega)) _) | (with_reducible refine bt ?_ ‹_›))
  case round =>
    clear hc hf hz hb hr h
    obtain ⟨p0, p1, q0, q1, r0, r1, ⟨c1, c2, c3, c4, c5, c6⟩, ⟨d1, d2, d3, d4, d5, d6⟩, fz, HB, hr⟩ := hrel
    have f1 := fun o => fz w.heap.size o (by omega) (by omega)
    have f2 := fun o => fz (w.heap.size + 1) o (by omega) (by omega)
    have f3 := fun o => fz (w.heap.size + 1 + 1) o (by omega) (by omega)
    have f4 := fun o => fz (w.heap.size + 1 + 1 + 1) o (by omega) (by omega)
    have z4 := World.block_lt_of_cell? wr _ d1
    simp only at z4
    clear fz hz0
    cases gk with
    | zero => exact absurd hr.out (by simp [rotk])
    | succ k1 =>
      have hr0 := hr.out
      clear hr
      unfold rotk at hr0
      by_cases g1 : cmpP ⟨p0, p1⟩ ⟨q0, q1⟩ > 0
      · rw [if_pos g1] at hr0
        replace hr0 := Lib.hid hr0
        have b1 : decide (cmpP ⟨q0, q1⟩ ⟨p0, p1⟩ < 0) = true := decide_eq_true (by first | exact g1 | (rw [cmpP_anti]; omega))
        clear g1
        go_wp2_with (go_at_call 51; refine (cmp51 _ _ _ _ _).mono ?_; rintro e w2 ⟨rfl, hb⟩; replace c1 := ck hb c1; replace c2 := ck hb c2; replace c3 := ck hb c3; replace c4 := ck hb c4; replace c5 := ck hb c5; replace c6 := ck hb c6; replace d1 := ck hb d1; replace d2 := ck hb d2; replace d3 := ck hb d3; replace d4 := ck hb d4; replace d5 := ck hb d5; replace d6 := ck hb d6; replace f1 := fun o => (hb.frozen (p := ⟨_, o, none⟩) (by simp; omega)).trans (f1 o); replace f2 := fun o => (hb.frozen (p := ⟨_, o, none⟩) (by simp; omega)).trans (f2 o); replace f3 := fun o => (hb.frozen (p := ⟨_, o, none⟩) (by simp; omega)).trans (f3 o); replace f4 := fun o => (hb.frozen (p := ⟨_, o, none⟩) (by simp; omega)).trans (f4 o); replace HB := bt HB hb; replace z4 := Nat.lt_of_lt_of_le z4 hb.size; clear hb)
        go_region
        all_goals
          go_wp2
          go_roundg k1
          case measure => omega
          case rel =>
            refine ⟨q0, q1, r0, r1, p0, p1, ⟨?_, ?_, ?_, ?_, ?_, ?_⟩, ⟨?_, ?_, ?_, ?_, ?_, ?_⟩, ?_, ?_, hr0⟩
            all_goals try (go_simp; done)
            · intro b o h1 h2
              rcases (by omega : b = w.heap.size ∨ b = w.heap.size + 1 ∨ b = w.heap.size + 1 + 1 ∨ b = w.heap.size + 1 + 1 + 1) with e | e | e | e <;> (subst e; go_simp)
            · repeat (first | (with_reducible exact Below.refl _ _) | (with_reducible assumption) | (with_reducible apply bd) | (with_reducible apply ba) | (with_reducible refine bs ?_ (by first | (simp; done) | (simp; omega)) _) | (with_reducible refine bt ?_ ‹_›))
      · rw [if_neg g1] at hr0
        have b1 : decide (cmpP ⟨q0, q1⟩ ⟨p0, p1⟩ < 0) = false := decide_eq_false (by first | exact g1 | (rw [cmpP_anti]; omega))
        by_cases g2 : cmpP ⟨p0, p1⟩ ⟨r0, r1⟩ > 0
        · rw [if_pos g2] at hr0
          replace hr0 := Lib.hid hr0
          have b2 : decide (cmpP ⟨r0, r1⟩ ⟨p0, p1⟩ < 0) = true := decide_eq_true (by first | exact g2 | (rw [cmpP_anti]; omega))
          clear g1 g2
          go_wp2_with (go_at_call 51; refine (cmp51 _ _ _ _ _).mono ?_; rintro e w2 ⟨rfl, hb⟩; replace c1 := ck hb c1; replace c2 := ck hb c2; replace c3 := ck hb c3; replace c4 := ck hb c4; replace c5 := ck hb c5; replace c6 := ck hb c6; replace d1 := ck hb d1; replace d2 := ck hb d2; replace d3 := ck hb d3; replace d4 := ck hb d4; replace d5 := ck hb d5; replace d6 := ck hb d6; replace f1 := fun o => (hb.frozen (p := ⟨_, o, none⟩) (by simp; omega)).trans (f1 o); replace f2 := fun o => (hb.frozen (p := ⟨_, o, none⟩) (by simp; omega)).trans (f2 o); replace f3 := fun o => (hb.frozen (p := ⟨_, o, none⟩) (by simp; omega)).trans (f3 o); replace f4 := fun o => (hb.frozen (p := ⟨_, o, none⟩) (by simp; omega)).trans (f4 o); replace HB := bt HB hb; replace z4 := Nat.lt_of_lt_of_le z4 hb.size; clear hb)
          go_region
          all_goals
            go_wp2
            go_roundg k1
            case measure => omega
            case rel =>
              refine ⟨q0, q1, r0, r1, p0, p1, ⟨?_, ?_, ?_, ?_, ?_, ?_⟩, ⟨?_, ?_, ?_, ?_, ?_, ?_⟩, ?_, ?_, hr0⟩
              all_goals try (go_simp; done)
              · intro b o h1 h2
                rcases (by omega : b = w.heap.size ∨ b = w.heap.size + 1 ∨ b = w.heap.size + 1 + 1 ∨ b = w.heap.size + 1 + 1 + 1) with e | e | e | e <;> (subst e; go_simp)
              · repeat (first | (with_reducible exact Below.refl _ _) | (with_reducible assumption) | (with_reducible apply bd) | (with_reducible apply ba) | (with_reducible refine bs ?_ (by first | (simp; done) | (simp; omega)) _) | (with_reducible refine bt ?_ ‹_›))
        · rw [if_neg g2] at hr0
          obtain rfl := Option.some.inj hr0
          have b2 : decide (cmpP ⟨r0, r1⟩ ⟨p0, p1⟩ < 0) = false := decide_eq_false (by first | exact g2 | (rw [cmpP_anti]; omega))
          clear g1 g2 hr0
          go_wp2_with (go_at_call 51; refine (cmp51 _ _ _ _ _).mono ?_; rintro e w2 ⟨rfl, hb⟩; replace c1 := ck hb c1; replace c2 := ck hb c2; replace c3 := ck hb c3; replace c4 := ck hb c4; replace c5 := ck hb c5; replace c6 := ck hb c6; replace d1 := ck hb d1; replace d2 := ck hb d2; replace d3 := ck hb d3; replace d4 := ck hb d4; replace d5 := ck hb d5; replace d6 := ck hb d6; replace f1 := fun o => (hb.frozen (p := ⟨_, o, none⟩) (by simp; omega)).trans (f1 o); replace f2 := fun o => (hb.frozen (p := ⟨_, o, none⟩) (by simp; omega)).trans (f2 o); replace f3 := fun o => (hb.frozen (p := ⟨_, o, none⟩) (by simp; omega)).trans (f3 o); replace f4 := fun o => (hb.frozen (p := ⟨_, o, none⟩) (by simp; omega)).trans (f4 o); replace HB := bt HB hb; replace z4 := Nat.lt_of_lt_of_le z4 hb.size; clear hb)
          (try simp only [Exit.inBlock, Exit.then])
          refine bodyPost_ret (v := .tuple #[.agg #[.int .i64 p0, .int .i64 p1, .int .i64 q0, .int .i64 q1, .int .i64 r0, .int .i64 r1], .bool true]) ?_ ?_ ?_
          · simp [results, Try.results21, go_sem, *]
          · rfl
          refine ⟨rfl, ?_⟩
          repeat (first | (with_reducible exact Below.refl _ _) | (with_reducible assumption) | (with_reducible apply bd) | (with_reducible apply ba) | (with_reducible refine bs ?_ (by first | (simp; done) | (simp; omega)) _) | (with_reducible refine bt ?_ ‹_›))

theorem make21 (a0 a1 b0 b1 c0 c1 : Int) (w : World) :
    Calls Try.prog 21 #[.agg #[.int .i64 a0, .int .i64 a1], .agg #[.int .i64 b0, .int .i64 b1], .agg #[.int .i64 c0, .int .i64 c1]] w fun e w' =>
      e = .returned (.tuple #[.agg #[.int .i64 (mkT ⟨a0, a1⟩ ⟨b0, b1⟩ ⟨c0, c1⟩).1.a.x, .int .i64 (mkT ⟨a0, a1⟩ ⟨b0, b1⟩ ⟨c0, c1⟩).1.a.y, .int .i64 (mkT ⟨a0, a1⟩ ⟨b0, b1⟩ ⟨c0, c1⟩).1.b.x, .int .i64 (mkT ⟨a0, a1⟩ ⟨b0, b1⟩ ⟨c0, c1⟩).1.b.y, .int .i64 (mkT ⟨a0, a1⟩ ⟨b0, b1⟩ ⟨c0, c1⟩).1.c.x, .int .i64 (mkT ⟨a0, a1⟩ ⟨b0, b1⟩ ⟨c0, c1⟩).1.c.y], .bool (mkT ⟨a0, a1⟩ ⟨b0, b1⟩ ⟨c0, c1⟩).2]) ∧ Below w.heap.size w w' := by
  rcases ori_cases ⟨a0, a1⟩ ⟨b0, b1⟩ ⟨c0, c1⟩ with h | h | h
  · have e : mkT ⟨a0, a1⟩ ⟨b0, b1⟩ ⟨c0, c1⟩ = (⟨⟨0, 0⟩, ⟨0, 0⟩, ⟨0, 0⟩⟩, false) := mkT_zero h
    rw [e]
    exact make21_zero a0 a1 b0 b1 c0 c1 w h
  · have e : mkT ⟨a0, a1⟩ ⟨b0, b1⟩ ⟨c0, c1⟩ = (rotT ⟨a0, a1⟩ ⟨b0, b1⟩ ⟨c0, c1⟩, true) := mkT_one h
    rw [e]
    exact make21_one a0 a1 b0 b1 c0 c1 _ w h (rotk_rotT _ _ _)
  · have e : mkT ⟨a0, a1⟩ ⟨b0, b1⟩ ⟨c0, c1⟩ = (rotT ⟨a0, a1⟩ ⟨c0, c1⟩ ⟨b0, b1⟩, true) := mkT_neg h
    rw [e]
    exact make21_neg a0 a1 b0 b1 c0 c1 _ w h (rotk_rotT _ _ _)

end Go.Proofs.Ytandgbpbabmdfaa
