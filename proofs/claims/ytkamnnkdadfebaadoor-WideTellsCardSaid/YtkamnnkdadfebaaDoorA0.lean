/- The words of the numbers of 128 bits, and small laws for the walks. -/
import Derived.Test.YtkamnnkdadfebaaDoorProg
import Derived.WalkKit
import Derived.RegionTactic
import Derived.ChangeAlike
import Derived.Outline
import Derived.Lib.Hide
import Derived.Deep.RegionHeld3
import Derived.Deep.QuietTactic
import Derived.BigQuiet
import Derived.LoopN
import Derived.Laws.Externs
import Derived.Lib.Mul64
import Derived.Laws.Bits64b
import Derived.Laws.StructEq
namespace Go.Proofs.YtkamnnkdadfebaaDoor
open Go.RowKit

/-- Which number is ahead. -/
def cmpI (a b : Int) : Int := if a < b then -1 else if b < a then 1 else 0

theorem cmpI_lt {a b : Int} (h : a < b) : cmpI a b = -1 := by unfold cmpI; rw [if_pos h]
theorem cmpI_gt {a b : Int} (h : b < a) : cmpI a b = 1 := by unfold cmpI; rw [if_neg (by omega), if_pos h]
theorem cmpI_eq {a b : Int} (h : a = b) : cmpI a b = 0 := by unfold cmpI; rw [if_neg (by omega), if_neg (by omega)]

/-- The first that is not nought. -/
def or2 (a b : Int) : Int := if a = 0 then b else a

theorem cmpI_sub (a b : Int) : cmpI a b = cmpI (a - b) 0 := by unfold cmpI; (repeat' split) <;> omega

theorem cmpI_cases (a b : Int) : cmpI a b = 0 ∨ cmpI a b = 1 ∨ cmpI a b = -1 := by unfold cmpI; (repeat' split) <;> omega

/-- The words of a number: the high one, the low one. -/
def hiW (v : Int) : Int := v / 18446744073709551616
def loW (v : Int) : Int := v % 18446744073709551616
/-- A number's size. -/
def absW (n : Int) : Int := if n < 0 then -n else n

theorem loW_bd (v : Int) : 0 ≤ loW v ∧ loW v ≤ 18446744073709551615 := by unfold loW; omega
theorem wide_cmp (u v : Int) : or2 (cmpI (hiW u) (hiW v)) (cmpI (loW u) (loW v)) = cmpI u v := by
  unfold hiW loW or2 cmpI
  (repeat' split) <;> omega
theorem absW_pos {n : Int} (h : 0 ≤ n) : absW n = n := by unfold absW; rw [if_neg (by omega)]
theorem absW_neg {n : Int} (h : n < 0) : absW n = -n := by unfold absW; rw [if_pos h]
theorem absW_mul (a b : Int) : absW a * absW b = absW (a * b) := by
  rcases Int.lt_or_le a 0 with ha | ha
  · rw [absW_neg ha]
    rcases Int.lt_or_le b 0 with hb | hb
    · rw [absW_neg hb, absW_pos (Int.mul_nonneg_of_nonpos_of_nonpos (by omega) (by omega)), Int.neg_mul_neg]
    · rw [absW_pos hb]
      by_cases h : b = 0
      · subst h; simp [absW]
      · rw [absW_neg (Int.mul_neg_of_neg_of_pos ha (by omega)), Int.neg_mul]
  · rw [absW_pos ha]
    rcases Int.lt_or_le b 0 with hb | hb
    · rw [absW_neg hb]
      by_cases h : a = 0
      · subst h; simp [absW]
      · rw [absW_neg (Int.mul_neg_of_pos_of_neg (by omega) hb), Int.mul_neg]
    · rw [absW_pos hb, absW_pos (Int.mul_nonneg ha hb)]

theorem bcell {W w1 : World} (hb : Below W.heap.size W w1) : (∀ b o, b < W.heap.size → w1.cell? ⟨b, o, none⟩ = W.cell? ⟨b, o, none⟩) ∧ (∀ b o, b < W.heap.size → w1.frozen? ⟨b, o, none⟩ = W.frozen? ⟨b, o, none⟩) :=
  ⟨fun b o h => hb.cell (p := ⟨b, o, none⟩) h, fun b o h => hb.frozen (p := ⟨b, o, none⟩) h⟩

theorem ba {W w : World} (h : Below W.heap.size W w) (o : Obj) : Below W.heap.size W (w.alloc o) := h.alloc h.size o
theorem bd {W w : World} (h : Below W.heap.size W w) : Below W.heap.size W w.drew := h.drew
theorem bt {W w w1 : World} (h : Below W.heap.size W w) (k : Below w.heap.size w w1) : Below W.heap.size W w1 := h.trans (k.mono h.size)

theorem rb {a b : Bool} (h : a = b) : Ending.returned (.bool a) = .returned (.bool b) := by rw [h]
theorem ri {k : IntKind} {a b : Int} (h : a = b) : Ending.returned (.int k a) = .returned (.int k b) := by rw [h]
theorem aft {W w1 : World} (hb : Below W.heap.size W w1) : (∀ b o, b < W.heap.size → w1.cell? ⟨b, o, none⟩ = W.cell? ⟨b, o, none⟩) ∧ (∀ b o, b < W.heap.size → w1.frozen? ⟨b, o, none⟩ = W.frozen? ⟨b, o, none⟩) ∧ W.heap.size ≤ w1.heap.size :=
  ⟨fun b o h => hb.cell (p := ⟨b, o, none⟩) h, fun b o h => hb.frozen (p := ⟨b, o, none⟩) h, hb.size⟩
theorem undr {w w1 : World} (hb : Below w.drew.heap.size w.drew w1) : Below w.heap.size w w1 := ⟨hb.os, hb.tape, hb.output, hb.size, hb.block⟩
theorem ck {w w1 : World} (hb : Below w.heap.size w w1) {a : Addr} {v : Value} (h : w.cell? a = some v) : w1.cell? a = some v := by
  have := World.block_lt_of_cell? w _ h
  rw [hb.cell this]; exact h
theorem bs {W w : World} (h : Below W.heap.size W w) {p : Addr} (hp : W.heap.size ≤ p.block) (u : Value) : Below W.heap.size W (w.setCell p u) := h.setCell hp u

theorem cf {w w1 : World} (hb : Below w.heap.size w w1) {b o : Nat} (hl : b < w.heap.size) (h : w.frozen? ⟨b, o, none⟩ = false) : w1.frozen? ⟨b, o, none⟩ = false := (hb.frozen (p := ⟨b, o, none⟩) hl).trans h

theorem so {w : World} {b o b' o' : Nat} {u v : Value} (h : w.cell? ⟨b, o, none⟩ = some v) (hne : ¬ b = b') : (w.setCell ⟨b', o', none⟩ u).cell? ⟨b, o, none⟩ = some v := by
  rw [World.cell?_setCell_other _ _ _ _ (fun e => hne (by injection e with e1; exact e1.symm))]; exact h
theorem sb {w : World} {b o o' : Nat} {u v : Value} (h : w.cell? ⟨b, o, none⟩ = some v) (hne : ¬ o = o') : (w.setCell ⟨b, o', none⟩ u).cell? ⟨b, o, none⟩ = some v := by
  rw [World.cell?_setCell_other _ _ _ _ (fun e => hne (by injection e with e1 e2; exact e2.symm))]; exact h
theorem ss {w : World} {a : Addr} {u v : Value} (h : w.cell? a = some u) : (w.setCell a v).cell? a = some v := World.cell?_setCell_same _ _ _ h
theorem sf {w : World} {a p : Addr} {u : Value} (h : w.frozen? a = false) : (w.setCell p u).frozen? a = false := by rw [World.frozen?_setCell]; exact h
theorem szl {w : World} {n : Nat} {p : Addr} {u : Value} (h : n < w.heap.size) : n < (w.setCell p u).heap.size := by simp; exact h
theorem sz {w v : World} {p : Addr} {u : Value} (h : v.heap.size ≤ w.heap.size) : v.heap.size ≤ (w.setCell p u).heap.size := by simp; exact h

section
variable {P : Program} {d : Nat} {xs ys : Array Value} {f : Field} {fs : List Field} {u v : Value} {r s : Bool} {w : World}
/-- Two structs, field by field: one field, then the others. -/
theorem eqMore (hn : f.name ≠ "_") (h1 : (part f.type xs f.offset).run P w = .ok u w) (h2 : (part f.type ys f.offset).run P w = .ok v w) (h3 : (Op.equalIn d f.type u v).run P w = .ok r w)
    (h4 : (Op.eqFields d xs ys fs).run P w = .ok s w) : (Op.eqFields d xs ys (f :: fs)).run P w = .ok (r && s) w := by
  rw [Op.eqFields]
  simp only [if_pos hn, Sem.run_bind, h1, h2, h3, Result.andThen_ok]
  cases r
  · simp
  · simpa using h4
theorem eqLast (hn : f.name ≠ "_") (h1 : (part f.type xs f.offset).run P w = .ok u w) (h2 : (part f.type ys f.offset).run P w = .ok v w) (h3 : (Op.equalIn d f.type u v).run P w = .ok r w) : (Op.eqFields d xs ys [f]).run P w = .ok r w := by
  have h := eqMore (fs := []) (s := true) hn h1 h2 h3 (by simp [Op.eqFields])
  rwa [Bool.and_true] at h
theorem eqWhole {t : TypeId} {gs : Array Field} (hu : P.underlying t = some (.struct gs)) (hp : P.stoodInHeld t = false) (h : (Op.eqFields d xs ys gs.toList).run P w = .ok r w) : (Op.equalIn (d + 1) t (.agg xs) (.agg ys)).run P w = .ok r w := by
  have hf : P.fieldsOf t = gs := by simp [Program.fieldsOf, hu]
  rw [run_equalIn_struct (P := P) w d t xs ys (by rw [hf]; exact hu) hp, hf]
  exact h
end

theorem eq24 (d : Nat) (w : World) (x0 x1 y0 y1 : Int) :
    (Op.equalIn (d + 2) 24 (.agg #[.int .i64 x0, .int .u64 x1]) (.agg #[.int .i64 y0, .int .u64 y1])).run Tryd.prog w = .ok (x0 == y0 && x1 == y1) w := by
  refine eqWhole Tryd.underlying24 (by kernel_rfl) ?_
  refine eqMore (by decide) (by go_simp; rfl) (by go_simp; rfl) (by go_simp) ?_
  exact eqLast (by decide) (by go_simp; rfl) (by go_simp; rfl) (by go_simp)

theorem eq37 (d : Nat) (w : World) (x0 x1 y0 y1 : Int) :
    (Op.equalIn (d + 2) 37 (.agg #[.int .i64 x0, .int .u64 x1]) (.agg #[.int .i64 y0, .int .u64 y1])).run Tryd.prog w = .ok (x0 == y0 && x1 == y1) w := by
  refine eqWhole Tryd.underlying37 (by kernel_rfl) ?_
  refine eqMore (by decide) (by go_simp; rfl) (by go_simp; rfl) (by go_simp) ?_
  exact eqLast (by decide) (by go_simp; rfl) (by go_simp; rfl) (by go_simp)

end Go.Proofs.YtkamnnkdadfebaaDoor
