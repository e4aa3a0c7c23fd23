/- How a point and a triangle by value are opened. -/
import Derived.Test.YtandgbpbabmdfaaRows
import Derived.WalkKit
import Derived.ProofKit
import Derived.OpenShut
import Derived.ShutString
import Derived.ChangeOld
import Derived.Below
import Derived.Lib.SmallJoins
import Derived.Deep.Strs
namespace Go.Proofs.Ytandgbpbabmdfaa
open Go.ChangeShapes Go.WideShapes Go.ChangeAt Go.RowKit Go.Joins Go.Deep

theorem own : ownKnob Try.prog.godebug = none := by kernel_rfl
theorem laidOut : laidOutB Try.prog = true := by kernel_rfl

section
variable {H : Type} {enc : TypeId × Value → H} {w : World} {spare : Nat → Bool} {r : Reach} {b0 : Nat} {v : Value} {d : DataW H} {p : List MemPlace}

theorem open_pt (hv : Value.okWide Try.prog w r b0 23 v) (h : DataW.Trod enc Try.prog w 0 spare true 23 v d p) : ∃ x y : Int, v = .agg #[.int .i64 x, .int .i64 y] := by
  obtain ⟨c0, c1, y0, y1, m, rfl, rfl, rfl, hy0, hy1⟩ := open_agg2 Try.underlying23 (by kernel_rfl) (by kernel_rfl) hv h
  obtain ⟨a, e0, rfl, wa⟩ := DataW.trod_int Try.underlying3 hy0
  obtain ⟨b, e1, rfl, wb⟩ := DataW.trod_int Try.underlying3 hy1
  simp at e0 e1
  exact ⟨a, b, by rw [e0, e1]⟩

theorem array6 {α : Type} {cs : Array α} (h : cs.size = 6) : ∃ c0 c1 c2 c3 c4 c5, cs = #[c0, c1, c2, c3, c4, c5] := by
  obtain ⟨l⟩ := cs
  match l, h with
  | [c0, c1, c2, c3, c4, c5], _ => exact ⟨c0, c1, c2, c3, c4, c5, rfl⟩

theorem trod_pt {fuel : Nat} {u0 u1 : Value} {x : DataW H × List MemPlace} (h : DataW.trod enc Try.prog w 0 spare true fuel 23 [u0, u1] = some x) : ∃ a b : Int, u0 = .int .i64 a ∧ u1 = .int .i64 b := by
  obtain ⟨y0, y1, n, _, _, h0, h1⟩ := trod_struct2 Try.underlying23 h
  obtain ⟨a, e0, _, _⟩ := DataW.trod_int Try.underlying3 h0
  obtain ⟨b, e1, _, _⟩ := DataW.trod_int Try.underlying3 h1
  have k : Try.prog.cellsOf 3 = 1 := by kernel_rfl
  simp [k] at e0 e1
  exact ⟨a, b, e0, e1⟩

theorem open_tri (hv : Value.okWide Try.prog w r b0 25 v) (h : DataW.Trod enc Try.prog w 0 spare true 25 v d p) :
    ∃ a0 a1 b0 b1 c0 c1 : Int, v = .agg #[.int .i64 a0, .int .i64 a1, .int .i64 b0, .int .i64 b1, .int .i64 c0, .int .i64 c1] := by
  obtain ⟨cs, rfl, hsz⟩ := okWide_struct Try.underlying25 hv
  have k6 : Try.prog.cellsOf 25 = 6 := by kernel_rfl
  obtain ⟨u0, u1, u2, u3, u4, u5, rfl⟩ := array6 (hsz.trans k6)
  obtain ⟨fuel, hf⟩ := h
  obtain ⟨y0, y1, y2, n, hx, _, h0, h1, h2⟩ := trod_struct3 Try.underlying25 hf
  have k2 : Try.prog.cellsOf 23 = 2 := by kernel_rfl
  simp [Value.cells, k2] at h0 h1 h2
  obtain ⟨a0, a1, rfl, rfl⟩ := trod_pt h0
  obtain ⟨b0, b1, rfl, rfl⟩ := trod_pt h1
  obtain ⟨c0, c1, rfl, rfl⟩ := trod_pt h2
  exact ⟨a0, a1, b0, b1, c0, c1, rfl⟩
end
end Go.Proofs.Ytandgbpbabmdfaa
