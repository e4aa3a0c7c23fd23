/- The laws of sides, circles and segments that are moved along the grid. -/
import Derived.Test.YtandgbpbabmdfaaNa
namespace Go.Proofs.Ytandgbpbabmdfaa

/-- A point, moved. -/
def mv (u v : Int) (p : Pt) : Pt := ⟨p.x + u, p.y + v⟩

section
variable {u v : Int}
theorem tw_mv (a b c : Pt) : tw (mv u v a) (mv u v b) (mv u v c) = tw a b c := by unfold tw mv; dsimp only; grind
theorem cmpP_mv (p q : Pt) : cmpP (mv u v p) (mv u v q) = cmpP p q := by
  have e : ∀ a b c : Int, cmpI (a + c) (b + c) = cmpI a b := by intro a b c; unfold cmpI; (repeat' split) <;> omega
  unfold cmpP mv; dsimp only; rw [e, e]
theorem mv_inj {p q : Pt} : mv u v p = mv u v q ↔ p = q := by
  rw [← cmpP_zero, cmpP_mv, cmpP_zero]
theorem det_mv (a b c d : Pt) : det (mv u v a) (mv u v b) (mv u v c) (mv u v d) = det a b c d := by
  have e : ∀ p d : Pt, (mv u v p).x - (mv u v d).x = p.x - d.x ∧ (mv u v p).y - (mv u v d).y = p.y - d.y := by intro p d; unfold mv; dsimp only; omega
  unfold det sq crs
  rw [(e a d).1, (e a d).2, (e b d).1, (e b d).2, (e c d).1, (e c d).2]
theorem minP_mv (p q : Pt) : minP (mv u v p) (mv u v q) = mv u v (minP p q) := by unfold minP; rw [cmpP_mv]; split <;> rfl
theorem leastP_mv (a b c d : Pt) : leastP (mv u v a) (mv u v b) (mv u v c) (mv u v d) = mv u v (leastP a b c d) := by unfold leastP; rw [minP_mv, minP_mv, minP_mv]
theorem loP_mv (p q : Pt) : loP (mv u v p) (mv u v q) = mv u v (loP p q) := by unfold loP; rw [cmpP_mv]; split <;> rfl
theorem hiP_mv (p q : Pt) : hiP (mv u v p) (mv u v q) = mv u v (hiP p q) := by unfold hiP; rw [cmpP_mv]; split <;> rfl
theorem inl_mv (a b c d : Pt) : inl (mv u v a) (mv u v b) (mv u v c) (mv u v d) = inl a b c d := by
  rw [inl_eq, inl_eq, loP_mv, loP_mv, hiP_mv, hiP_mv, hiP_mv, loP_mv, cmpP_mv]

theorem ori_mv {a b c : Pt} (a1 : val a = true) (a2 : val (mv u v a) = true) (b1 : val b = true) (b2 : val (mv u v b) = true) (c1 : val c = true) (c2 : val (mv u v c) = true) :
    ori (mv u v a) (mv u v b) (mv u v c) = ori a b c := by rw [ori_valid a1 b1 c1, ori_valid a2 b2 c2, tw_mv]

theorem onE_mv {p a b : Pt} (p1 : val p = true) (p2 : val (mv u v p) = true) (a1 : val a = true) (a2 : val (mv u v a) = true) (b1 : val b = true) (b2 : val (mv u v b) = true) :
    onE (mv u v p) (mv u v a) (mv u v b) = onE p a b := by
  unfold onE
  rw [p1, p2, a1, a2, b1, b2, ori_mv a1 a2 b1 b2 p1 p2, cmpP_mv, cmpP_mv]
  congr 1
  congr 1
  · rw [decide_eq_decide, ne_eq, mv_inj]
  · rw [decide_eq_decide, mv_inj]

variable {a b c d : Pt} (a1 : val a = true) (a2 : val (mv u v a) = true) (b1 : val b = true) (b2 : val (mv u v b) = true) (c1 : val c = true) (c2 : val (mv u v c) = true) (d1 : val d = true) (d2 : val (mv u v d) = true)
include a1 a2 b1 b2 c1 c2 d1 d2

theorem tie_mv : tieW (mv u v a) (mv u v b) (mv u v c) (mv u v d) = tieW a b c d := by
  unfold tieW
  rw [leastP_mv, ori_mv d1 d2 b1 b2 c1 c2, ori_mv a1 a2 d1 d2 c1 c2, ori_mv a1 a2 b1 b2 d1 d2]
  simp only [mv_inj]
theorem circP_mv : circP (mv u v a) (mv u v b) (mv u v c) (mv u v d) = circP a b c d := by
  unfold circP; rw [det_mv, tie_mv a1 a2 b1 b2 c1 c2 d1 d2]
theorem circ_mv : circ (mv u v a) (mv u v b) (mv u v c) (mv u v d) = circ a b c d := by
  unfold circ
  rw [ori_mv a1 a2 b1 b2 c1 c2, circP_mv a1 a2 b1 b2 c1 c2 d1 d2, circP_mv a1 a2 c1 c2 b1 b2 d1 d2, d1, d2]
  simp only [mv_inj]
theorem meet_mv : meet (mv u v a) (mv u v b) (mv u v c) (mv u v d) = meet a b c d := by
  unfold meet
  rw [ori_mv a1 a2 b1 b2 c1 c2, ori_mv a1 a2 b1 b2 d1 d2, ori_mv c1 c2 d1 d2 a1 a2, ori_mv c1 c2 d1 d2 b1 b2, inl_mv, onE_mv c1 c2 a1 a2 b1 b2, onE_mv d1 d2 a1 a2 b1 b2, onE_mv a1 a2 c1 c2 d1 d2, onE_mv b1 b2 c1 c2 d1 d2, a1, a2, b1, b2, c1, c2, d1, d2]
  simp only [mv_inj]
end
end Go.Proofs.Ytandgbpbabmdfaa
