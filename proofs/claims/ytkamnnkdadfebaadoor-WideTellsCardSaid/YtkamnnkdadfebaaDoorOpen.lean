/- How a number of 128 bits is opened; what the rows' list gives. -/
import Derived.Test.YtkamnnkdadfebaaDoorRows
import Derived.Test.YtkamnnkdadfebaaDoorB6
import Derived.Test.YtkamnnkdadfebaaDoorB2
import Derived.WalkKit
import Derived.ProofKit
import Derived.OpenShut
import Derived.ShutString
import Derived.Below
import Derived.Lib.SmallJoins
import Derived.LaidMore
import Derived.LaidSub
import Derived.Lay
import Derived.Lib.LaidTab
import Derived.Stop.Joined
namespace Go.Proofs.YtkamnnkdadfebaaDoor
open Go.ChangeShapes Go.WideShapes Go.ChangeAt Go.RowKit Go.Joins

theorem own : ownKnob Tryd.prog.godebug = none := by kernel_rfl
theorem laidOut : laidOutB Tryd.prog = true := by kernel_rfl

section
variable {H : Type} {enc : TypeId × Value → H} {w : World} {spare : Nat → Bool} {r : Reach} {b0 : Nat} {v : Value} {d : DataW H} {p : List MemPlace}

set_option maxRecDepth 100000 in
theorem open_wide (hv : Value.okWide Tryd.prog w r b0 24 v) (h : DataW.Trod enc Tryd.prog w 0 spare true 24 v d p) : ∃ u : Int, fits u = true ∧ v = .agg #[.int .i64 (hiW u), .int .u64 (loW u)] := by
  obtain ⟨c0, c1, y0, y1, m, rfl, rfl, rfl, hy0, hy1⟩ := open_agg2 Tryd.underlying24 (by kernel_rfl) (by kernel_rfl) hv h
  obtain ⟨a, e0, rfl, wa⟩ := DataW.trod_int Tryd.underlying2 hy0
  obtain ⟨b, e1, rfl, wb⟩ := DataW.trod_int Tryd.underlying22 hy1
  simp at e0 e1
  have ba := bounds_i64 wa
  have bb := bounds_u64 wb
  refine ⟨a * 18446744073709551616 + b, fits_yes (by omega) (by omega), ?_⟩
  rw [e0, e1, show hiW (a * 18446744073709551616 + b) = a by unfold hiW; omega, show loW (a * 18446744073709551616 + b) = b by unfold loW; omega]

set_option maxRecDepth 100000 in
theorem open_i (hv : Value.okWide Tryd.prog w r b0 3 v) (h : DataW.Trod enc Tryd.prog w 0 spare true 3 v d p) : ∃ a : Int, (-9223372036854775808 ≤ a ∧ a ≤ 9223372036854775807) ∧ v = .int .i64 a := by
  obtain ⟨x, rfl, rfl, rfl, wx⟩ := Go.ChangeShapes.open_int Tryd.underlying3 hv h
  exact ⟨x, bounds_i64 wx, rfl⟩

set_option maxRecDepth 100000 in
theorem open_s (hv : Value.okWide Tryd.prog w r b0 9 v) (h : DataW.Trod enc Tryd.prog w 0 spare true 9 v d p) : ∃ S : List UInt8, v = .string ⟨S.toArray⟩ := by
  obtain ⟨s, rfl, rfl, rfl, _⟩ := Go.ChangeMaps.open_string Tryd.underlying9 hv h
  exact ⟨s.data.toList, by cases s; simp⟩
end


theorem pow10_is : (Rows.laid_internal_strconv_uint64pow10 : DataW Unit) = Lib.tabData .u64 Lib.pow10Tab := by kernel_rfl
theorem third {P : Program} {W : World} {x1 x2 : String × DataW Unit} {n : String} {d : DataW Unit} {r : List (String × DataW Unit)} (h : laidMet P (x1 :: x2 :: (n, d) :: r) W) :
    ∃ g t cs fuel p, P.globalNamed n = some g ∧ (P.globals[g]?).map (·.type) = some t ∧ W.var? P n = some cs ∧ DataW.trod (fun _ => ()) P W 0 (fun _ => true) false fuel t cs.toList = some (d, p) := by
  obtain ⟨ps, ⟨g1, t1, cs1, f1, p1, q1, _, _, _, _, ⟨g2, t2, cs2, f2, p2, q2, _, _, _, _, ⟨g3, t3, cs3, f3, p3, q3, a, b, c, e, _, _⟩, _⟩, _⟩, _⟩ := h
  exact ⟨g3, t3, cs3, f3, p3, a, b, c, e⟩
theorem tabOf {W : World} {x1 x2 : String × DataW Unit} {r : List (String × DataW Unit)} (h : laidMet Tryd.prog (x1 :: x2 :: ("internal/strconv.uint64pow10", Rows.laid_internal_strconv_uint64pow10) :: r) W) : Tab W := by
  obtain ⟨g, t, cs, fuel, p, hg, ht, hvar, hd⟩ := third h
  obtain rfl := Option.some.inj ((show Tryd.prog.globalNamed "internal/strconv.uint64pow10" = some 2 by kernel_rfl).symm.trans hg)
  obtain rfl := Option.some.inj ((show (Tryd.prog.globals[2]?).map (·.type) = some 108 by kernel_rfl).symm.trans ht)
  rw [pow10_is] at hd
  show W.var? Tryd.prog "internal/strconv.uint64pow10" = some (Lib.pow10Tab.map fun z => Value.int .u64 z).toArray
  rw [hvar, ← Lib.cells_of_tab Tryd.underlying108 Tryd.underlying22 (by kernel_rfl) (by kernel_rfl) hd]
end Go.Proofs.YtkamnnkdadfebaaDoor
