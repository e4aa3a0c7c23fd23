import Derived.Test.YtandgbpbabmdfaaT18
import Derived.Test.YtandgbpbabmdfaaRg
namespace Go.Proofs.Ytandgbpbabmdfaa
open Go.RowKit
attribute [local go_sem high] eq23 eq25 mn_two mx_two mn_three mx_three mx_four

/-- What each operation of the region leaves. -/
def region12aV (d0 d1 e0 e1 f0 f1 r0 r1 r2 r3 l : Int) : Nat → Value
  | 0 => .agg #[.int .i64 d0, .int .i64 d1, .int .i64 e0, .int .i64 e1, .int .i64 f0, .int .i64 f1]
  | 1 => .agg #[.int .i64 r0, .int .i64 r1, .int .i64 r2, .int .i64 r3]
  | 2 => .bool true
  | 3 => .agg #[.int .i64 d0, .int .i64 d1, .int .i64 e0, .int .i64 e1, .int .i64 f0, .int .i64 f1]
  | 4 => .agg #[.int .i64 r0, .int .i64 r1, .int .i64 l, .int .i64 r3]
  | 5 => .bool true
  | 6 => .bool true
  | 7 => undef
  | 8 => undef
  | 9 => undef
  | 10 => .bool true
  | 11 => .bool true
  | 12 => .bool true
  | 13 => .bool true
  | 14 => .bool true
  | 15 => .bool true
  | _ => undef

set_option maxHeartbeats 4000000 in
set_option maxRecDepth 100000 in
theorem region12a (d0 d1 e0 e1 f0 f1 r0 r1 r2 r3 l m : Int) (kt kr ku ko : Nat) (W : World) (m1 : ovl ⟨⟨d0, d1⟩, ⟨e0, e1⟩, ⟨f0, f1⟩⟩ r0 r1 r2 r3 = true) (m2 : ovl ⟨⟨d0, d1⟩, ⟨e0, e1⟩, ⟨f0, f1⟩⟩ r0 r1 l r3 = true) {id : Nat} {ops : Array Oper} {Q : Exit → Act → World → Prop} {a : Act} {w : World}
    (ho : ops = (regOps Try.f12 6)) (hsz : a.tmps.size = 53) (t3 : a.tmps[3]? = some (.pointer (some ⟨kt, 0, none⟩))) (t4 : a.tmps[4]? = some (.pointer (some ⟨kr, 0, none⟩))) (t8 : a.tmps[8]? = some (.pointer (some ⟨ku, 0, none⟩)))
    (h0 : w.drew.cell? ⟨kt, 0, none⟩ = some (.int .i64 d0) ∧ w.drew.cell? ⟨kt, 1, none⟩ = some (.int .i64 d1) ∧ w.drew.cell? ⟨kt, 2, none⟩ = some (.int .i64 e0) ∧ w.drew.cell? ⟨kt, 3, none⟩ = some (.int .i64 e1) ∧ w.drew.cell? ⟨kt, 4, none⟩ = some (.int .i64 f0) ∧ w.drew.cell? ⟨kt, 5, none⟩ = some (.int .i64 f1) ∧ w.drew.cell? ⟨kr, 0, none⟩ = some (.int .i64 r0) ∧ w.drew.cell? ⟨kr, 1, none⟩ = some (.int .i64 r1) ∧ w.drew.cell? ⟨kr, 2, none⟩ = some (.int .i64 r2) ∧ w.drew.cell? ⟨kr, 3, none⟩ = some (.int .i64 r3) ∧ w.drew.cell? ⟨ku, 0, none⟩ = some (.int .i64 r0) ∧ w.drew.cell? ⟨ku, 1, none⟩ = some (.int .i64 r1) ∧ w.drew.cell? ⟨ku, 2, none⟩ = some (.int .i64 l) ∧ w.drew.cell? ⟨ku, 3, none⟩ = some (.int .i64 r3) ∧ w.drew.cell? ⟨ko, 0, none⟩ = some (.int .i64 m) ∧ w.drew.cell? ⟨ko, 1, none⟩ = some (.int .i64 r1) ∧ w.drew.cell? ⟨ko, 2, none⟩ = some (.int .i64 r2) ∧ w.drew.cell? ⟨ko, 3, none⟩ = some (.int .i64 r3) ∧ Below W.heap.size W w.drew)
    (he : ∀ w', w'.cell? ⟨kt, 0, none⟩ = some (.int .i64 d0) ∧ w'.cell? ⟨kt, 1, none⟩ = some (.int .i64 d1) ∧ w'.cell? ⟨kt, 2, none⟩ = some (.int .i64 e0) ∧ w'.cell? ⟨kt, 3, none⟩ = some (.int .i64 e1) ∧ w'.cell? ⟨kt, 4, none⟩ = some (.int .i64 f0) ∧ w'.cell? ⟨kt, 5, none⟩ = some (.int .i64 f1) ∧ w'.cell? ⟨kr, 0, none⟩ = some (.int .i64 r0) ∧ w'.cell? ⟨kr, 1, none⟩ = some (.int .i64 r1) ∧ w'.cell? ⟨kr, 2, none⟩ = some (.int .i64 r2) ∧ w'.cell? ⟨kr, 3, none⟩ = some (.int .i64 r3) ∧ w'.cell? ⟨ku, 0, none⟩ = some (.int .i64 r0) ∧ w'.cell? ⟨ku, 1, none⟩ = some (.int .i64 r1) ∧ w'.cell? ⟨ku, 2, none⟩ = some (.int .i64 l) ∧ w'.cell? ⟨ku, 3, none⟩ = some (.int .i64 r3) ∧ w'.cell? ⟨ko, 0, none⟩ = some (.int .i64 m) ∧ w'.cell? ⟨ko, 1, none⟩ = some (.int .i64 r1) ∧ w'.cell? ⟨ko, 2, none⟩ = some (.int .i64 r2) ∧ w'.cell? ⟨ko, 3, none⟩ = some (.int .i64 r3) ∧ Below W.heap.size W w' → Q .normal ⟨((((((((((((((((a.tmps.setIfInBounds 38 (.agg #[.int .i64 d0, .int .i64 d1, .int .i64 e0, .int .i64 e1, .int .i64 f0, .int .i64 f1])).setIfInBounds 39 (.agg #[.int .i64 r0, .int .i64 r1, .int .i64 r2, .int .i64 r3])).setIfInBounds 40 (.bool true)).setIfInBounds 41 (.agg #[.int .i64 d0, .int .i64 d1, .int .i64 e0, .int .i64 e1, .int .i64 f0, .int .i64 f1])).setIfInBounds 42 (.agg #[.int .i64 r0, .int .i64 r1, .int .i64 l, .int .i64 r3])).setIfInBounds 43 (.bool true)).setIfInBounds 44 (.bool true)).setIfInBounds 45 (undef)).setIfInBounds 46 (undef)).setIfInBounds 47 (undef)).setIfInBounds 48 (.bool true)).setIfInBounds 49 (.bool true)).setIfInBounds 50 (.bool true)).setIfInBounds 51 (.bool true)).setIfInBounds 52 (.bool true)).setIfInBounds 6 (.bool true)), a.defers⟩ w') :
    (Code.region id ops true).wp Try.prog Q a w := by
  have ht : tidy (regOps Try.f12 6) a.tmps.size = true := by rw [hsz]; kernel_rfl
  refine region_tab (G := Unit) (fun _ => (region12aV d0 d1 e0 e1 f0 f1 r0 r1 r2 r3 l )) (fun _ _ w' => w'.cell? ⟨kt, 0, none⟩ = some (.int .i64 d0) ∧ w'.cell? ⟨kt, 1, none⟩ = some (.int .i64 d1) ∧ w'.cell? ⟨kt, 2, none⟩ = some (.int .i64 e0) ∧ w'.cell? ⟨kt, 3, none⟩ = some (.int .i64 e1) ∧ w'.cell? ⟨kt, 4, none⟩ = some (.int .i64 f0) ∧ w'.cell? ⟨kt, 5, none⟩ = some (.int .i64 f1) ∧ w'.cell? ⟨kr, 0, none⟩ = some (.int .i64 r0) ∧ w'.cell? ⟨kr, 1, none⟩ = some (.int .i64 r1) ∧ w'.cell? ⟨kr, 2, none⟩ = some (.int .i64 r2) ∧ w'.cell? ⟨kr, 3, none⟩ = some (.int .i64 r3) ∧ w'.cell? ⟨ku, 0, none⟩ = some (.int .i64 r0) ∧ w'.cell? ⟨ku, 1, none⟩ = some (.int .i64 r1) ∧ w'.cell? ⟨ku, 2, none⟩ = some (.int .i64 l) ∧ w'.cell? ⟨ku, 3, none⟩ = some (.int .i64 r3) ∧ w'.cell? ⟨ko, 0, none⟩ = some (.int .i64 m) ∧ w'.cell? ⟨ko, 1, none⟩ = some (.int .i64 r1) ∧ w'.cell? ⟨ko, 2, none⟩ = some (.int .i64 r2) ∧ w'.cell? ⟨ko, 3, none⟩ = some (.int .i64 r3) ∧ Below W.heap.size W w') () (by kernel_rfl) ho ht h0 ?_ ?_
  · intro i o hoi g L b w' hun hpre hT hS
    clear he h0 ho hsz ht
    have hi : i < (regOps Try.f12 6).size := (Array.getElem?_eq_some_iff.1 hoi).1
    rw [show (regOps Try.f12 6).size = 16 by kernel_rfl] at hi
    obtain ⟨tc0, tc1, tc2, tc3, tc4, tc5, rc0, rc1, rc2, rc3, uc0, uc1, uc2, uc3, oc0, oc1, oc2, oc3, HB⟩ := hS
    have hcases : i = 0 ∨ i = 1 ∨ i = 2 ∨ i = 3 ∨ i = 4 ∨ i = 5 ∨ i = 6 ∨ i = 7 ∨ i = 8 ∨ i = 9 ∨ i = 10 ∨ i = 11 ∨ i = 12 ∨ i = 13 ∨ i = 14 ∨ i = 15 := by omega
    rcases hcases with rfl | rfl | rfl | rfl | rfl | rfl | rfl | rfl | rfl | rfl | rfl | rfl | rfl | rfl | rfl | rfl
    · have hlit : (regOps Try.f12 6)[0]? = some ({ dst := some 38, op := Op.load 25 (Operand.tmp 3), type := 25, pos := "law.go:81", after := #[], guard := none }) := by kernel_rfl
      obtain rfl := Option.some.inj (hlit.symm.trans hoi)
      have r3 : b.tmps.getD 3 undef = (.pointer (some ⟨kt, 0, none⟩)) := rd ((hT.old 3 (by kernel_rfl)).trans t3)
      refine op_go hoi (want_all rfl) fun K hK => ?_
      clear hT hpre hun hlit hoi
      go_simp
      exact hK _ _ ⟨(), fun _ _ => rfl, rfl, tc0, tc1, tc2, tc3, tc4, tc5, rc0, rc1, rc2, rc3, uc0, uc1, uc2, uc3, oc0, oc1, oc2, oc3, HB⟩
    · have hlit : (regOps Try.f12 6)[1]? = some ({ dst := some 39, op := Op.load 48 (Operand.tmp 4), type := 48, pos := "law.go:81", after := #[], guard := none }) := by kernel_rfl
      obtain rfl := Option.some.inj (hlit.symm.trans hoi)
      have r4 : b.tmps.getD 4 undef = (.pointer (some ⟨kr, 0, none⟩)) := rd ((hT.old 4 (by kernel_rfl)).trans t4)
      refine op_go hoi (want_all rfl) fun K hK => ?_
      clear hT hpre hun hlit hoi
      go_simp
      exact hK _ _ ⟨(), fun _ _ => rfl, rfl, tc0, tc1, tc2, tc3, tc4, tc5, rc0, rc1, rc2, rc3, uc0, uc1, uc2, uc3, oc0, oc1, oc2, oc3, HB⟩
    · have hlit : (regOps Try.f12 6)[2]? = some ({ dst := some 40, op := Op.call { callee := Callee.value (Operand.func 43), args := #[Operand.tmp 38, Operand.tmp 39], argTypes := #[25, 48] }, type := 4, pos := "law.go:81", after := #[{ on := 0, ground := Ground.data }, { on := 1, ground := Ground.data }], guard := none }) := by kernel_rfl
      obtain rfl := Option.some.inj (hlit.symm.trans hoi)
      have r38 : b.tmps.getD 38 undef = (.agg #[.int .i64 d0, .int .i64 d1, .int .i64 e0, .int .i64 e1, .int .i64 f0, .int .i64 f1]) := rd (hT.at 0 (by kernel_rfl) (pre_of hpre 0 (by kernel_rfl)))
      have r39 : b.tmps.getD 39 undef = (.agg #[.int .i64 r0, .int .i64 r1, .int .i64 r2, .int .i64 r3]) := rd (hT.at 1 (by kernel_rfl) (pre_of hpre 1 (by kernel_rfl)))
      refine op_go hoi (want_all rfl) fun K hK => ?_
      clear hT hpre hun hlit hoi
      go_simp
      go_at_call 43
      refine (ovl43 _ _ _ _ _ _ _ _ _ _ _).mono ?_; rw [m1]; rintro e w2 ⟨rfl, hb⟩; replace tc0 := ck hb (a := ⟨kt, 0, none⟩) (v := .int .i64 d0) (by go_simp); replace tc1 := ck hb (a := ⟨kt, 1, none⟩) (v := .int .i64 d1) (by go_simp); replace tc2 := ck hb (a := ⟨kt, 2, none⟩) (v := .int .i64 e0) (by go_simp); replace tc3 := ck hb (a := ⟨kt, 3, none⟩) (v := .int .i64 e1) (by go_simp); replace tc4 := ck hb (a := ⟨kt, 4, none⟩) (v := .int .i64 f0) (by go_simp); replace tc5 := ck hb (a := ⟨kt, 5, none⟩) (v := .int .i64 f1) (by go_simp); replace rc0 := ck hb (a := ⟨kr, 0, none⟩) (v := .int .i64 r0) (by go_simp); replace rc1 := ck hb (a := ⟨kr, 1, none⟩) (v := .int .i64 r1) (by go_simp); replace rc2 := ck hb (a := ⟨kr, 2, none⟩) (v := .int .i64 r2) (by go_simp); replace rc3 := ck hb (a := ⟨kr, 3, none⟩) (v := .int .i64 r3) (by go_simp); replace uc0 := ck hb (a := ⟨ku, 0, none⟩) (v := .int .i64 r0) (by go_simp); replace uc1 := ck hb (a := ⟨ku, 1, none⟩) (v := .int .i64 r1) (by go_simp); replace uc2 := ck hb (a := ⟨ku, 2, none⟩) (v := .int .i64 l) (by go_simp); replace uc3 := ck hb (a := ⟨ku, 3, none⟩) (v := .int .i64 r3) (by go_simp); replace oc0 := ck hb (a := ⟨ko, 0, none⟩) (v := .int .i64 m) (by go_simp); replace oc1 := ck hb (a := ⟨ko, 1, none⟩) (v := .int .i64 r1) (by go_simp); replace oc2 := ck hb (a := ⟨ko, 2, none⟩) (v := .int .i64 r2) (by go_simp); replace oc3 := ck hb (a := ⟨ko, 3, none⟩) (v := .int .i64 r3) (by go_simp); replace HB : Below W.heap.size W w2 := bt HB hb; clear hb
      exact hK _ _ ⟨(), fun _ _ => rfl, rfl, tc0, tc1, tc2, tc3, tc4, tc5, rc0, rc1, rc2, rc3, uc0, uc1, uc2, uc3, oc0, oc1, oc2, oc3, HB⟩
    · have hlit : (regOps Try.f12 6)[3]? = some ({ dst := some 41, op := Op.load 25 (Operand.tmp 3), type := 25, pos := "law.go:81", after := #[], guard := none }) := by kernel_rfl
      obtain rfl := Option.some.inj (hlit.symm.trans hoi)
      have r3 : b.tmps.getD 3 undef = (.pointer (some ⟨kt, 0, none⟩)) := rd ((hT.old 3 (by kernel_rfl)).trans t3)
      refine op_go hoi (want_all rfl) fun K hK => ?_
      clear hT hpre hun hlit hoi
      go_simp
      exact hK _ _ ⟨(), fun _ _ => rfl, rfl, tc0, tc1, tc2, tc3, tc4, tc5, rc0, rc1, rc2, rc3, uc0, uc1, uc2, uc3, oc0, oc1, oc2, oc3, HB⟩
    · have hlit : (regOps Try.f12 6)[4]? = some ({ dst := some 42, op := Op.load 48 (Operand.tmp 8), type := 48, pos := "law.go:81", after := #[], guard := none }) := by kernel_rfl
      obtain rfl := Option.some.inj (hlit.symm.trans hoi)
      have r8 : b.tmps.getD 8 undef = (.pointer (some ⟨ku, 0, none⟩)) := rd ((hT.old 8 (by kernel_rfl)).trans t8)
      refine op_go hoi (want_all rfl) fun K hK => ?_
      clear hT hpre hun hlit hoi
      go_simp
      exact hK _ _ ⟨(), fun _ _ => rfl, rfl, tc0, tc1, tc2, tc3, tc4, tc5, rc0, rc1, rc2, rc3, uc0, uc1, uc2, uc3, oc0, oc1, oc2, oc3, HB⟩
    · have hlit : (regOps Try.f12 6)[5]? = some ({ dst := some 43, op := Op.call { callee := Callee.value (Operand.func 43), args := #[Operand.tmp 41, Operand.tmp 42], argTypes := #[25, 48] }, type := 4, pos := "law.go:81", after := #[{ on := 3, ground := Ground.data }, { on := 4, ground := Ground.data }, { on := 2, ground := Ground.chain }], guard := none }) := by kernel_rfl
      obtain rfl := Option.some.inj (hlit.symm.trans hoi)
      have r41 : b.tmps.getD 41 undef = (.agg #[.int .i64 d0, .int .i64 d1, .int .i64 e0, .int .i64 e1, .int .i64 f0, .int .i64 f1]) := rd (hT.at 3 (by kernel_rfl) (pre_of hpre 3 (by kernel_rfl)))
      have r42 : b.tmps.getD 42 undef = (.agg #[.int .i64 r0, .int .i64 r1, .int .i64 l, .int .i64 r3]) := rd (hT.at 4 (by kernel_rfl) (pre_of hpre 4 (by kernel_rfl)))
      refine op_go hoi (want_all rfl) fun K hK => ?_
      clear hT hpre hun hlit hoi
      go_simp
      go_at_call 43
      refine (ovl43 _ _ _ _ _ _ _ _ _ _ _).mono ?_; rw [m2]; rintro e w2 ⟨rfl, hb⟩; replace tc0 := ck hb (a := ⟨kt, 0, none⟩) (v := .int .i64 d0) (by go_simp); replace tc1 := ck hb (a := ⟨kt, 1, none⟩) (v := .int .i64 d1) (by go_simp); replace tc2 := ck hb (a := ⟨kt, 2, none⟩) (v := .int .i64 e0) (by go_simp); replace tc3 := ck hb (a := ⟨kt, 3, none⟩) (v := .int .i64 e1) (by go_simp); replace tc4 := ck hb (a := ⟨kt, 4, none⟩) (v := .int .i64 f0) (by go_simp); replace tc5 := ck hb (a := ⟨kt, 5, none⟩) (v := .int .i64 f1) (by go_simp); replace rc0 := ck hb (a := ⟨kr, 0, none⟩) (v := .int .i64 r0) (by go_simp); replace rc1 := ck hb (a := ⟨kr, 1, none⟩) (v := .int .i64 r1) (by go_simp); replace rc2 := ck hb (a := ⟨kr, 2, none⟩) (v := .int .i64 r2) (by go_simp); replace rc3 := ck hb (a := ⟨kr, 3, none⟩) (v := .int .i64 r3) (by go_simp); replace uc0 := ck hb (a := ⟨ku, 0, none⟩) (v := .int .i64 r0) (by go_simp); replace uc1 := ck hb (a := ⟨ku, 1, none⟩) (v := .int .i64 r1) (by go_simp); replace uc2 := ck hb (a := ⟨ku, 2, none⟩) (v := .int .i64 l) (by go_simp); replace uc3 := ck hb (a := ⟨ku, 3, none⟩) (v := .int .i64 r3) (by go_simp); replace oc0 := ck hb (a := ⟨ko, 0, none⟩) (v := .int .i64 m) (by go_simp); replace oc1 := ck hb (a := ⟨ko, 1, none⟩) (v := .int .i64 r1) (by go_simp); replace oc2 := ck hb (a := ⟨ko, 2, none⟩) (v := .int .i64 r2) (by go_simp); replace oc3 := ck hb (a := ⟨ko, 3, none⟩) (v := .int .i64 r3) (by go_simp); replace HB : Below W.heap.size W w2 := bt HB hb; clear hb
      exact hK _ _ ⟨(), fun _ _ => rfl, rfl, tc0, tc1, tc2, tc3, tc4, tc5, rc0, rc1, rc2, rc3, uc0, uc1, uc2, uc3, oc0, oc1, oc2, oc3, HB⟩
    · have hlit : (regOps Try.f12 6)[6]? = some ({ dst := some 44, op := Op.move (Operand.tmp 43), type := 4, pos := "law.go:81", after := #[{ on := 5, ground := Ground.data }, { on := 5, ground := Ground.chain }], guard := none }) := by kernel_rfl
      obtain rfl := Option.some.inj (hlit.symm.trans hoi)
      have r43 : b.tmps.getD 43 undef = (.bool true) := rd (hT.at 5 (by kernel_rfl) (pre_of hpre 5 (by kernel_rfl)))
      refine op_go hoi (want_all rfl) fun K hK => ?_
      clear hT hpre hun hlit hoi
      go_simp
      exact hK _ _ ⟨(), fun _ _ => rfl, rfl, tc0, tc1, tc2, tc3, tc4, tc5, rc0, rc1, rc2, rc3, uc0, uc1, uc2, uc3, oc0, oc1, oc2, oc3, HB⟩
    · have hlit : (regOps Try.f12 6)[7]? = some ({ dst := some 45, op := Op.load 25 (Operand.tmp 3), type := 25, pos := "law.go:81", after := #[{ on := 6, ground := Ground.guard }], guard := some (6, false) }) := by kernel_rfl
      obtain rfl := Option.some.inj (hlit.symm.trans hoi)
      exact op_not hoi (want_no rfl (d := 44) (by kernel_rfl) (hT.at 6 (by kernel_rfl) (pre_of hpre 6 (by kernel_rfl)))) ⟨(), fun _ _ => rfl, rfl, tc0, tc1, tc2, tc3, tc4, tc5, rc0, rc1, rc2, rc3, uc0, uc1, uc2, uc3, oc0, oc1, oc2, oc3, HB⟩
    · have hlit : (regOps Try.f12 6)[8]? = some ({ dst := some 46, op := Op.load 48 (Operand.tmp 9), type := 48, pos := "law.go:81", after := #[{ on := 6, ground := Ground.guard }], guard := some (6, false) }) := by kernel_rfl
      obtain rfl := Option.some.inj (hlit.symm.trans hoi)
      exact op_not hoi (want_no rfl (d := 44) (by kernel_rfl) (hT.at 6 (by kernel_rfl) (pre_of hpre 6 (by kernel_rfl)))) ⟨(), fun _ _ => rfl, rfl, tc0, tc1, tc2, tc3, tc4, tc5, rc0, rc1, rc2, rc3, uc0, uc1, uc2, uc3, oc0, oc1, oc2, oc3, HB⟩
    · have hlit : (regOps Try.f12 6)[9]? = some ({ dst := some 47, op := Op.call { callee := Callee.value (Operand.func 43), args := #[Operand.tmp 45, Operand.tmp 46], argTypes := #[25, 48] }, type := 4, pos := "law.go:81", after := #[{ on := 7, ground := Ground.data }, { on := 8, ground := Ground.data }, { on := 6, ground := Ground.chain }, { on := 6, ground := Ground.guard }], guard := some (6, false) }) := by kernel_rfl
      obtain rfl := Option.some.inj (hlit.symm.trans hoi)
      exact op_not hoi (want_no rfl (d := 44) (by kernel_rfl) (hT.at 6 (by kernel_rfl) (pre_of hpre 6 (by kernel_rfl)))) ⟨(), fun _ _ => rfl, rfl, tc0, tc1, tc2, tc3, tc4, tc5, rc0, rc1, rc2, rc3, uc0, uc1, uc2, uc3, oc0, oc1, oc2, oc3, HB⟩
    · have hlit : (regOps Try.f12 6)[10]? = some ({ dst := some 48, op := Op.pick (Operand.tmp 44) (Operand.const (Value.bool true)) (Operand.tmp 47), type := 4, pos := "law.go:81", after := #[{ on := 6, ground := Ground.data }, { on := 9, ground := Ground.data }], guard := none }) := by kernel_rfl
      obtain rfl := Option.some.inj (hlit.symm.trans hoi)
      have r44 : b.tmps.getD 44 undef = (.bool true) := rd (hT.at 6 (by kernel_rfl) (pre_of hpre 6 (by kernel_rfl)))
      have r47 : b.tmps.getD 47 undef = (undef) := rd (hT.at 9 (by kernel_rfl) (pre_of hpre 9 (by kernel_rfl)))
      refine op_go hoi (want_all rfl) fun K hK => ?_
      clear hT hpre hun hlit hoi
      go_simp
      exact hK _ _ ⟨(), fun _ _ => rfl, rfl, tc0, tc1, tc2, tc3, tc4, tc5, rc0, rc1, rc2, rc3, uc0, uc1, uc2, uc3, oc0, oc1, oc2, oc3, HB⟩
    · have hlit : (regOps Try.f12 6)[11]? = some ({ dst := some 49, op := Op.binOp BinOp.eql 4 (Operand.tmp 40) (Operand.tmp 48) 4, type := 4, pos := "law.go:81", after := #[{ on := 2, ground := Ground.data }, { on := 10, ground := Ground.data }], guard := none }) := by kernel_rfl
      obtain rfl := Option.some.inj (hlit.symm.trans hoi)
      have r40 : b.tmps.getD 40 undef = (.bool true) := rd (hT.at 2 (by kernel_rfl) (pre_of hpre 2 (by kernel_rfl)))
      have r48 : b.tmps.getD 48 undef = (.bool true) := rd (hT.at 10 (by kernel_rfl) (pre_of hpre 10 (by kernel_rfl)))
      refine op_go hoi (want_all rfl) fun K hK => ?_
      clear hT hpre hun hlit hoi
      go_simp
      exact hK _ _ ⟨(), fun _ _ => rfl, rfl, tc0, tc1, tc2, tc3, tc4, tc5, rc0, rc1, rc2, rc3, uc0, uc1, uc2, uc3, oc0, oc1, oc2, oc3, HB⟩
    · have hlit : (regOps Try.f12 6)[12]? = some ({ dst := some 50, op := Op.move (Operand.tmp 49), type := 4, pos := "law.go:81", after := #[{ on := 11, ground := Ground.data }, { on := 9, ground := Ground.chain }], guard := none }) := by kernel_rfl
      obtain rfl := Option.some.inj (hlit.symm.trans hoi)
      have r49 : b.tmps.getD 49 undef = (.bool true) := rd (hT.at 11 (by kernel_rfl) (pre_of hpre 11 (by kernel_rfl)))
      refine op_go hoi (want_all rfl) fun K hK => ?_
      clear hT hpre hun hlit hoi
      go_simp
      exact hK _ _ ⟨(), fun _ _ => rfl, rfl, tc0, tc1, tc2, tc3, tc4, tc5, rc0, rc1, rc2, rc3, uc0, uc1, uc2, uc3, oc0, oc1, oc2, oc3, HB⟩
    · have hlit : (regOps Try.f12 6)[13]? = some ({ dst := some 51, op := Op.call { callee := Callee.value (Operand.func 47), args := #[], argTypes := #[] }, type := 4, pos := "law.go:81", after := #[{ on := 12, ground := Ground.chain }, { on := 12, ground := Ground.guard }], guard := some (12, true) }) := by kernel_rfl
      obtain rfl := Option.some.inj (hlit.symm.trans hoi)
      refine op_go hoi (want_yes rfl (d := 50) (by kernel_rfl) (hT.at 12 (by kernel_rfl) (pre_of hpre 12 (by kernel_rfl)))) fun K hK => ?_
      clear hT hpre hun hlit hoi
      go_simp
      go_at_call 47
      refine (awake47 _).mono ?_; rintro e w2 ⟨rfl, hb⟩; replace tc0 := ck hb (a := ⟨kt, 0, none⟩) (v := .int .i64 d0) (by go_simp); replace tc1 := ck hb (a := ⟨kt, 1, none⟩) (v := .int .i64 d1) (by go_simp); replace tc2 := ck hb (a := ⟨kt, 2, none⟩) (v := .int .i64 e0) (by go_simp); replace tc3 := ck hb (a := ⟨kt, 3, none⟩) (v := .int .i64 e1) (by go_simp); replace tc4 := ck hb (a := ⟨kt, 4, none⟩) (v := .int .i64 f0) (by go_simp); replace tc5 := ck hb (a := ⟨kt, 5, none⟩) (v := .int .i64 f1) (by go_simp); replace rc0 := ck hb (a := ⟨kr, 0, none⟩) (v := .int .i64 r0) (by go_simp); replace rc1 := ck hb (a := ⟨kr, 1, none⟩) (v := .int .i64 r1) (by go_simp); replace rc2 := ck hb (a := ⟨kr, 2, none⟩) (v := .int .i64 r2) (by go_simp); replace rc3 := ck hb (a := ⟨kr, 3, none⟩) (v := .int .i64 r3) (by go_simp); replace uc0 := ck hb (a := ⟨ku, 0, none⟩) (v := .int .i64 r0) (by go_simp); replace uc1 := ck hb (a := ⟨ku, 1, none⟩) (v := .int .i64 r1) (by go_simp); replace uc2 := ck hb (a := ⟨ku, 2, none⟩) (v := .int .i64 l) (by go_simp); replace uc3 := ck hb (a := ⟨ku, 3, none⟩) (v := .int .i64 r3) (by go_simp); replace oc0 := ck hb (a := ⟨ko, 0, none⟩) (v := .int .i64 m) (by go_simp); replace oc1 := ck hb (a := ⟨ko, 1, none⟩) (v := .int .i64 r1) (by go_simp); replace oc2 := ck hb (a := ⟨ko, 2, none⟩) (v := .int .i64 r2) (by go_simp); replace oc3 := ck hb (a := ⟨ko, 3, none⟩) (v := .int .i64 r3) (by go_simp); replace HB : Below W.heap.size W w2 := bt HB hb; clear hb
      exact hK _ _ ⟨(), fun _ _ => rfl, rfl, tc0, tc1, tc2, tc3, tc4, tc5, rc0, rc1, rc2, rc3, uc0, uc1, uc2, uc3, oc0, oc1, oc2, oc3, HB⟩
    · have hlit : (regOps Try.f12 6)[14]? = some ({ dst := some 52, op := Op.pick (Operand.tmp 50) (Operand.tmp 51) (Operand.const (Value.bool false)), type := 4, pos := "law.go:81", after := #[{ on := 12, ground := Ground.data }, { on := 13, ground := Ground.data }], guard := none }) := by kernel_rfl
      obtain rfl := Option.some.inj (hlit.symm.trans hoi)
      have r50 : b.tmps.getD 50 undef = (.bool true) := rd (hT.at 12 (by kernel_rfl) (pre_of hpre 12 (by kernel_rfl)))
      have r51 : b.tmps.getD 51 undef = (.bool true) := rd (hT.at 13 (by kernel_rfl) (pre_of hpre 13 (by kernel_rfl)))
      refine op_go hoi (want_all rfl) fun K hK => ?_
      clear hT hpre hun hlit hoi
      go_simp
      exact hK _ _ ⟨(), fun _ _ => rfl, rfl, tc0, tc1, tc2, tc3, tc4, tc5, rc0, rc1, rc2, rc3, uc0, uc1, uc2, uc3, oc0, oc1, oc2, oc3, HB⟩
    · have hlit : (regOps Try.f12 6)[15]? = some ({ dst := some 6, op := Op.assign (Operand.tmp 52), type := 4, pos := "law.go:81", after := #[{ on := 14, ground := Ground.data }, { on := 13, ground := Ground.chain }, { on := 0, ground := Ground.phase }, { on := 1, ground := Ground.phase }, { on := 2, ground := Ground.phase }, { on := 3, ground := Ground.phase }, { on := 4, ground := Ground.phase }, { on := 5, ground := Ground.phase }, { on := 6, ground := Ground.phase }, { on := 7, ground := Ground.phase }, { on := 8, ground := Ground.phase }, { on := 9, ground := Ground.phase }, { on := 10, ground := Ground.phase }, { on := 11, ground := Ground.phase }, { on := 12, ground := Ground.phase }, { on := 13, ground := Ground.phase }, { on := 14, ground := Ground.phase }], guard := none }) := by kernel_rfl
      obtain rfl := Option.some.inj (hlit.symm.trans hoi)
      have r52 : b.tmps.getD 52 undef = (.bool true) := rd (hT.at 14 (by kernel_rfl) (pre_of hpre 14 (by kernel_rfl)))
      refine op_go hoi (want_all rfl) fun K hK => ?_
      clear hT hpre hun hlit hoi
      go_simp
      exact hK _ _ ⟨(), fun _ _ => rfl, rfl, tc0, tc1, tc2, tc3, tc4, tc5, rc0, rc1, rc2, rc3, uc0, uc1, uc2, uc3, oc0, oc1, oc2, oc3, HB⟩
  · intro g b w' hT hS
    rw [hT.all ht]
    have hn : (regOps Try.f12 6).size = 16 := by kernel_rfl
    rw [hn]
    exact he w' hS

/-- What each operation of the region leaves. -/
def region12bV (d0 d1 e0 e1 f0 f1 r0 r1 r2 r3 l m : Int) : Nat → Value
  | 0 => .agg #[.int .i64 d0, .int .i64 d1, .int .i64 e0, .int .i64 e1, .int .i64 f0, .int .i64 f1]
  | 1 => .agg #[.int .i64 r0, .int .i64 r1, .int .i64 r2, .int .i64 r3]
  | 2 => .bool true
  | 3 => .agg #[.int .i64 d0, .int .i64 d1, .int .i64 e0, .int .i64 e1, .int .i64 f0, .int .i64 f1]
  | 4 => .agg #[.int .i64 r0, .int .i64 r1, .int .i64 l, .int .i64 r3]
  | 5 => .bool false
  | 6 => .bool false
  | 7 => .agg #[.int .i64 d0, .int .i64 d1, .int .i64 e0, .int .i64 e1, .int .i64 f0, .int .i64 f1]
  | 8 => .agg #[.int .i64 m, .int .i64 r1, .int .i64 r2, .int .i64 r3]
  | 9 => .bool true
  | 10 => .bool true
  | 11 => .bool true
  | 12 => .bool true
  | 13 => .bool true
  | 14 => .bool true
  | 15 => .bool true
  | _ => undef

set_option maxHeartbeats 4000000 in
set_option maxRecDepth 100000 in
theorem region12b (d0 d1 e0 e1 f0 f1 r0 r1 r2 r3 l m : Int) (kt kr ku ko : Nat) (W : World) (m1 : ovl ⟨⟨d0, d1⟩, ⟨e0, e1⟩, ⟨f0, f1⟩⟩ r0 r1 r2 r3 = true) (m2 : ovl ⟨⟨d0, d1⟩, ⟨e0, e1⟩, ⟨f0, f1⟩⟩ r0 r1 l r3 = false) (m3 : ovl ⟨⟨d0, d1⟩, ⟨e0, e1⟩, ⟨f0, f1⟩⟩ m r1 r2 r3 = true) {id : Nat} {ops : Array Oper} {Q : Exit → Act → World → Prop} {a : Act} {w : World}
    (ho : ops = (regOps Try.f12 6)) (hsz : a.tmps.size = 53) (t3 : a.tmps[3]? = some (.pointer (some ⟨kt, 0, none⟩))) (t4 : a.tmps[4]? = some (.pointer (some ⟨kr, 0, none⟩))) (t8 : a.tmps[8]? = some (.pointer (some ⟨ku, 0, none⟩))) (t9 : a.tmps[9]? = some (.pointer (some ⟨ko, 0, none⟩)))
    (h0 : w.drew.cell? ⟨kt, 0, none⟩ = some (.int .i64 d0) ∧ w.drew.cell? ⟨kt, 1, none⟩ = some (.int .i64 d1) ∧ w.drew.cell? ⟨kt, 2, none⟩ = some (.int .i64 e0) ∧ w.drew.cell? ⟨kt, 3, none⟩ = some (.int .i64 e1) ∧ w.drew.cell? ⟨kt, 4, none⟩ = some (.int .i64 f0) ∧ w.drew.cell? ⟨kt, 5, none⟩ = some (.int .i64 f1) ∧ w.drew.cell? ⟨kr, 0, none⟩ = some (.int .i64 r0) ∧ w.drew.cell? ⟨kr, 1, none⟩ = some (.int .i64 r1) ∧ w.drew.cell? ⟨kr, 2, none⟩ = some (.int .i64 r2) ∧ w.drew.cell? ⟨kr, 3, none⟩ = some (.int .i64 r3) ∧ w.drew.cell? ⟨ku, 0, none⟩ = some (.int .i64 r0) ∧ w.drew.cell? ⟨ku, 1, none⟩ = some (.int .i64 r1) ∧ w.drew.cell? ⟨ku, 2, none⟩ = some (.int .i64 l) ∧ w.drew.cell? ⟨ku, 3, none⟩ = some (.int .i64 r3) ∧ w.drew.cell? ⟨ko, 0, none⟩ = some (.int .i64 m) ∧ w.drew.cell? ⟨ko, 1, none⟩ = some (.int .i64 r1) ∧ w.drew.cell? ⟨ko, 2, none⟩ = some (.int .i64 r2) ∧ w.drew.cell? ⟨ko, 3, none⟩ = some (.int .i64 r3) ∧ Below W.heap.size W w.drew)
    (he : ∀ w', w'.cell? ⟨kt, 0, none⟩ = some (.int .i64 d0) ∧ w'.cell? ⟨kt, 1, none⟩ = some (.int .i64 d1) ∧ w'.cell? ⟨kt, 2, none⟩ = some (.int .i64 e0) ∧ w'.cell? ⟨kt, 3, none⟩ = some (.int .i64 e1) ∧ w'.cell? ⟨kt, 4, none⟩ = some (.int .i64 f0) ∧ w'.cell? ⟨kt, 5, none⟩ = some (.int .i64 f1) ∧ w'.cell? ⟨kr, 0, none⟩ = some (.int .i64 r0) ∧ w'.cell? ⟨kr, 1, none⟩ = some (.int .i64 r1) ∧ w'.cell? ⟨kr, 2, none⟩ = some (.int .i64 r2) ∧ w'.cell? ⟨kr, 3, none⟩ = some (.int .i64 r3) ∧ w'.cell? ⟨ku, 0, none⟩ = some (.int .i64 r0) ∧ w'.cell? ⟨ku, 1, none⟩ = some (.int .i64 r1) ∧ w'.cell? ⟨ku, 2, none⟩ = some (.int .i64 l) ∧ w'.cell? ⟨ku, 3, none⟩ = some (.int .i64 r3) ∧ w'.cell? ⟨ko, 0, none⟩ = some (.int .i64 m) ∧ w'.cell? ⟨ko, 1, none⟩ = some (.int .i64 r1) ∧ w'.cell? ⟨ko, 2, none⟩ = some (.int .i64 r2) ∧ w'.cell? ⟨ko, 3, none⟩ = some (.int .i64 r3) ∧ Below W.heap.size W w' → Q .normal ⟨((((((((((((((((a.tmps.setIfInBounds 38 (.agg #[.int .i64 d0, .int .i64 d1, .int .i64 e0, .int .i64 e1, .int .i64 f0, .int .i64 f1])).setIfInBounds 39 (.agg #[.int .i64 r0, .int .i64 r1, .int .i64 r2, .int .i64 r3])).setIfInBounds 40 (.bool true)).setIfInBounds 41 (.agg #[.int .i64 d0, .int .i64 d1, .int .i64 e0, .int .i64 e1, .int .i64 f0, .int .i64 f1])).setIfInBounds 42 (.agg #[.int .i64 r0, .int .i64 r1, .int .i64 l, .int .i64 r3])).setIfInBounds 43 (.bool false)).setIfInBounds 44 (.bool false)).setIfInBounds 45 (.agg #[.int .i64 d0, .int .i64 d1, .int .i64 e0, .int .i64 e1, .int .i64 f0, .int .i64 f1])).setIfInBounds 46 (.agg #[.int .i64 m, .int .i64 r1, .int .i64 r2, .int .i64 r3])).setIfInBounds 47 (.bool true)).setIfInBounds 48 (.bool true)).setIfInBounds 49 (.bool true)).setIfInBounds 50 (.bool true)).setIfInBounds 51 (.bool true)).setIfInBounds 52 (.bool true)).setIfInBounds 6 (.bool true)), a.defers⟩ w') :
    (Code.region id ops true).wp Try.prog Q a w := by
  have ht : tidy (regOps Try.f12 6) a.tmps.size = true := by rw [hsz]; kernel_rfl
  refine region_tab (G := Unit) (fun _ => (region12bV d0 d1 e0 e1 f0 f1 r0 r1 r2 r3 l m )) (fun _ _ w' => w'.cell? ⟨kt, 0, none⟩ = some (.int .i64 d0) ∧ w'.cell? ⟨kt, 1, none⟩ = some (.int .i64 d1) ∧ w'.cell? ⟨kt, 2, none⟩ = some (.int .i64 e0) ∧ w'.cell? ⟨kt, 3, none⟩ = some (.int .i64 e1) ∧ w'.cell? ⟨kt, 4, none⟩ = some (.int .i64 f0) ∧ w'.cell? ⟨kt, 5, none⟩ = some (.int .i64 f1) ∧ w'.cell? ⟨kr, 0, none⟩ = some (.int .i64 r0) ∧ w'.cell? ⟨kr, 1, none⟩ = some (.int .i64 r1) ∧ w'.cell? ⟨kr, 2, none⟩ = some (.int .i64 r2) ∧ w'.cell? ⟨kr, 3, none⟩ = some (.int .i64 r3) ∧ w'.cell? ⟨ku, 0, none⟩ = some (.int .i64 r0) ∧ w'.cell? ⟨ku, 1, none⟩ = some (.int .i64 r1) ∧ w'.cell? ⟨ku, 2, none⟩ = some (.int .i64 l) ∧ w'.cell? ⟨ku, 3, none⟩ = some (.int .i64 r3) ∧ w'.cell? ⟨ko, 0, none⟩ = some (.int .i64 m) ∧ w'.cell? ⟨ko, 1, none⟩ = some (.int .i64 r1) ∧ w'.cell? ⟨ko, 2, none⟩ = some (.int .i64 r2) ∧ w'.cell? ⟨ko, 3, none⟩ = some (.int .i64 r3) ∧ Below W.heap.size W w') () (by kernel_rfl) ho ht h0 ?_ ?_
  · intro i o hoi g L b w' hun hpre hT hS
    clear he h0 ho hsz ht
    have hi : i < (regOps Try.f12 6).size := (Array.getElem?_eq_some_iff.1 hoi).1
    rw [show (regOps Try.f12 6).size = 16 by kernel_rfl] at hi
    obtain ⟨tc0, tc1, tc2, tc3, tc4, tc5, rc0, rc1, rc2, rc3, uc0, uc1, uc2, uc3, oc0, oc1, oc2, oc3, HB⟩ := hS
    have hcases : i = 0 ∨ i = 1 ∨ i = 2 ∨ i = 3 ∨ i = 4 ∨ i = 5 ∨ i = 6 ∨ i = 7 ∨ i = 8 ∨ i = 9 ∨ i = 10 ∨ i = 11 ∨ i = 12 ∨ i = 13 ∨ i = 14 ∨ i = 15 := by omega
    rcases hcases with rfl | rfl | rfl | rfl | rfl | rfl | rfl | rfl | rfl | rfl | rfl | rfl | rfl | rfl | rfl | rfl
    · have hlit : (regOps Try.f12 6)[0]? = some ({ dst := some 38, op := Op.load 25 (Operand.tmp 3), type := 25, pos := "law.go:81", after := #[], guard := none }) := by kernel_rfl
      obtain rfl := Option.some.inj (hlit.symm.trans hoi)
      have r3 : b.tmps.getD 3 undef = (.pointer (some ⟨kt, 0, none⟩)) := rd ((hT.old 3 (by kernel_rfl)).trans t3)
      refine op_go hoi (want_all rfl) fun K hK => ?_
      clear hT hpre hun hlit hoi
      go_simp
      exact hK _ _ ⟨(), fun _ _ => rfl, rfl, tc0, tc1, tc2, tc3, tc4, tc5, rc0, rc1, rc2, rc3, uc0, uc1, uc2, uc3, oc0, oc1, oc2, oc3, HB⟩
    · have hlit : (regOps Try.f12 6)[1]? = some ({ dst := some 39, op := Op.load 48 (Operand.tmp 4), type := 48, pos := "law.go:81", after := #[], guard := none }) := by kernel_rfl
      obtain rfl := Option.some.inj (hlit.symm.trans hoi)
      have r4 : b.tmps.getD 4 undef = (.pointer (some ⟨kr, 0, none⟩)) := rd ((hT.old 4 (by kernel_rfl)).trans t4)
      refine op_go hoi (want_all rfl) fun K hK => ?_
      clear hT hpre hun hlit hoi
      go_simp
      exact hK _ _ ⟨(), fun _ _ => rfl, rfl, tc0, tc1, tc2, tc3, tc4, tc5, rc0, rc1, rc2, rc3, uc0, uc1, uc2, uc3, oc0, oc1, oc2, oc3, HB⟩
    · have hlit : (regOps Try.f12 6)[2]? = some ({ dst := some 40, op := Op.call { callee := Callee.value (Operand.func 43), args := #[Operand.tmp 38, Operand.tmp 39], argTypes := #[25, 48] }, type := 4, pos := "law.go:81", after := #[{ on := 0, ground := Ground.data }, { on := 1, ground := Ground.data }], guard := none }) := by kernel_rfl
      obtain rfl := Option.some.inj (hlit.symm.trans hoi)
      have r38 : b.tmps.getD 38 undef = (.agg #[.int .i64 d0, .int .i64 d1, .int .i64 e0, .int .i64 e1, .int .i64 f0, .int .i64 f1]) := rd (hT.at 0 (by kernel_rfl) (pre_of hpre 0 (by kernel_rfl)))
      have r39 : b.tmps.getD 39 undef = (.agg #[.int .i64 r0, .int .i64 r1, .int .i64 r2, .int .i64 r3]) := rd (hT.at 1 (by kernel_rfl) (pre_of hpre 1 (by kernel_rfl)))
      refine op_go hoi (want_all rfl) fun K hK => ?_
      clear hT hpre hun hlit hoi
      go_simp
      go_at_call 43
      refine (ovl43 _ _ _ _ _ _ _ _ _ _ _).mono ?_; rw [m1]; rintro e w2 ⟨rfl, hb⟩; replace tc0 := ck hb (a := ⟨kt, 0, none⟩) (v := .int .i64 d0) (by go_simp); replace tc1 := ck hb (a := ⟨kt, 1, none⟩) (v := .int .i64 d1) (by go_simp); replace tc2 := ck hb (a := ⟨kt, 2, none⟩) (v := .int .i64 e0) (by go_simp); replace tc3 := ck hb (a := ⟨kt, 3, none⟩) (v := .int .i64 e1) (by go_simp); replace tc4 := ck hb (a := ⟨kt, 4, none⟩) (v := .int .i64 f0) (by go_simp); replace tc5 := ck hb (a := ⟨kt, 5, none⟩) (v := .int .i64 f1) (by go_simp); replace rc0 := ck hb (a := ⟨kr, 0, none⟩) (v := .int .i64 r0) (by go_simp); replace rc1 := ck hb (a := ⟨kr, 1, none⟩) (v := .int .i64 r1) (by go_simp); replace rc2 := ck hb (a := ⟨kr, 2, none⟩) (v := .int .i64 r2) (by go_simp); replace rc3 := ck hb (a := ⟨kr, 3, none⟩) (v := .int .i64 r3) (by go_simp); replace uc0 := ck hb (a := ⟨ku, 0, none⟩) (v := .int .i64 r0) (by go_simp); replace uc1 := ck hb (a := ⟨ku, 1, none⟩) (v := .int .i64 r1) (by go_simp); replace uc2 := ck hb (a := ⟨ku, 2, none⟩) (v := .int .i64 l) (by go_simp); replace uc3 := ck hb (a := ⟨ku, 3, none⟩) (v := .int .i64 r3) (by go_simp); replace oc0 := ck hb (a := ⟨ko, 0, none⟩) (v := .int .i64 m) (by go_simp); replace oc1 := ck hb (a := ⟨ko, 1, none⟩) (v := .int .i64 r1) (by go_simp); replace oc2 := ck hb (a := ⟨ko, 2, none⟩) (v := .int .i64 r2) (by go_simp); replace oc3 := ck hb (a := ⟨ko, 3, none⟩) (v := .int .i64 r3) (by go_simp); replace HB : Below W.heap.size W w2 := bt HB hb; clear hb
      exact hK _ _ ⟨(), fun _ _ => rfl, rfl, tc0, tc1, tc2, tc3, tc4, tc5, rc0, rc1, rc2, rc3, uc0, uc1, uc2, uc3, oc0, oc1, oc2, oc3, HB⟩
    · have hlit : (regOps Try.f12 6)[3]? = some ({ dst := some 41, op := Op.load 25 (Operand.tmp 3), type := 25, pos := "law.go:81", after := #[], guard := none }) := by kernel_rfl
      obtain rfl := Option.some.inj (hlit.symm.trans hoi)
      have r3 : b.tmps.getD 3 undef = (.pointer (some ⟨kt, 0, none⟩)) := rd ((hT.old 3 (by kernel_rfl)).trans t3)
      refine op_go hoi (want_all rfl) fun K hK => ?_
      clear hT hpre hun hlit hoi
      go_simp
      exact hK _ _ ⟨(), fun _ _ => rfl, rfl, tc0, tc1, tc2, tc3, tc4, tc5, rc0, rc1, rc2, rc3, uc0, uc1, uc2, uc3, oc0, oc1, oc2, oc3, HB⟩
    · have hlit : (regOps Try.f12 6)[4]? = some ({ dst := some 42, op := Op.load 48 (Operand.tmp 8), type := 48, pos := "law.go:81", after := #[], guard := none }) := by kernel_rfl
      obtain rfl := Option.some.inj (hlit.symm.trans hoi)
      have r8 : b.tmps.getD 8 undef = (.pointer (some ⟨ku, 0, none⟩)) := rd ((hT.old 8 (by kernel_rfl)).trans t8)
      refine op_go hoi (want_all rfl) fun K hK => ?_
      clear hT hpre hun hlit hoi
      go_simp
      exact hK _ _ ⟨(), fun _ _ => rfl, rfl, tc0, tc1, tc2, tc3, tc4, tc5, rc0, rc1, rc2, rc3, uc0, uc1, uc2, uc3, oc0, oc1, oc2, oc3, HB⟩
    · have hlit : (regOps Try.f12 6)[5]? = some ({ dst := some 43, op := Op.call { callee := Callee.value (Operand.func 43), args := #[Operand.tmp 41, Operand.tmp 42], argTypes := #[25, 48] }, type := 4, pos := "law.go:81", after := #[{ on := 3, ground := Ground.data }, { on := 4, ground := Ground.data }, { on := 2, ground := Ground.chain }], guard := none }) := by kernel_rfl
      obtain rfl := Option.some.inj (hlit.symm.trans hoi)
      have r41 : b.tmps.getD 41 undef = (.agg #[.int .i64 d0, .int .i64 d1, .int .i64 e0, .int .i64 e1, .int .i64 f0, .int .i64 f1]) := rd (hT.at 3 (by kernel_rfl) (pre_of hpre 3 (by kernel_rfl)))
      have r42 : b.tmps.getD 42 undef = (.agg #[.int .i64 r0, .int .i64 r1, .int .i64 l, .int .i64 r3]) := rd (hT.at 4 (by kernel_rfl) (pre_of hpre 4 (by kernel_rfl)))
      refine op_go hoi (want_all rfl) fun K hK => ?_
      clear hT hpre hun hlit hoi
      go_simp
      go_at_call 43
      refine (ovl43 _ _ _ _ _ _ _ _ _ _ _).mono ?_; rw [m2]; rintro e w2 ⟨rfl, hb⟩; replace tc0 := ck hb (a := ⟨kt, 0, none⟩) (v := .int .i64 d0) (by go_simp); replace tc1 := ck hb (a := ⟨kt, 1, none⟩) (v := .int .i64 d1) (by go_simp); replace tc2 := ck hb (a := ⟨kt, 2, none⟩) (v := .int .i64 e0) (by go_simp); replace tc3 := ck hb (a := ⟨kt, 3, none⟩) (v := .int .i64 e1) (by go_simp); replace tc4 := ck hb (a := ⟨kt, 4, none⟩) (v := .int .i64 f0) (by go_simp); replace tc5 := ck hb (a := ⟨kt, 5, none⟩) (v := .int .i64 f1) (by go_simp); replace rc0 := ck hb (a := ⟨kr, 0, none⟩) (v := .int .i64 r0) (by go_simp); replace rc1 := ck hb (a := ⟨kr, 1, none⟩) (v := .int .i64 r1) (by go_simp); replace rc2 := ck hb (a := ⟨kr, 2, none⟩) (v := .int .i64 r2) (by go_simp); replace rc3 := ck hb (a := ⟨kr, 3, none⟩) (v := .int .i64 r3) (by go_simp); replace uc0 := ck hb (a := ⟨ku, 0, none⟩) (v := .int .i64 r0) (by go_simp); replace uc1 := ck hb (a := ⟨ku, 1, none⟩) (v := .int .i64 r1) (by go_simp); replace uc2 := ck hb (a := ⟨ku, 2, none⟩) (v := .int .i64 l) (by go_simp); replace uc3 := ck hb (a := ⟨ku, 3, none⟩) (v := .int .i64 r3) (by go_simp); replace oc0 := ck hb (a := ⟨ko, 0, none⟩) (v := .int .i64 m) (by go_simp); replace oc1 := ck hb (a := ⟨ko, 1, none⟩) (v := .int .i64 r1) (by go_simp); replace oc2 := ck hb (a := ⟨ko, 2, none⟩) (v := .int .i64 r2) (by go_simp); replace oc3 := ck hb (a := ⟨ko, 3, none⟩) (v := .int .i64 r3) (by go_simp); replace HB : Below W.heap.size W w2 := bt HB hb; clear hb
      exact hK _ _ ⟨(), fun _ _ => rfl, rfl, tc0, tc1, tc2, tc3, tc4, tc5, rc0, rc1, rc2, rc3, uc0, uc1, uc2, uc3, oc0, oc1, oc2, oc3, HB⟩
    · have hlit : (regOps Try.f12 6)[6]? = some ({ dst := some 44, op := Op.move (Operand.tmp 43), type := 4, pos := "law.go:81", after := #[{ on := 5, ground := Ground.data }, { on := 5, ground := Ground.chain }], guard := none }) := by kernel_rfl
      obtain rfl := Option.some.inj (hlit.symm.trans hoi)
      have r43 : b.tmps.getD 43 undef = (.bool false) := rd (hT.at 5 (by kernel_rfl) (pre_of hpre 5 (by kernel_rfl)))
      refine op_go hoi (want_all rfl) fun K hK => ?_
      clear hT hpre hun hlit hoi
      go_simp
      exact hK _ _ ⟨(), fun _ _ => rfl, rfl, tc0, tc1, tc2, tc3, tc4, tc5, rc0, rc1, rc2, rc3, uc0, uc1, uc2, uc3, oc0, oc1, oc2, oc3, HB⟩
    · have hlit : (regOps Try.f12 6)[7]? = some ({ dst := some 45, op := Op.load 25 (Operand.tmp 3), type := 25, pos := "law.go:81", after := #[{ on := 6, ground := Ground.guard }], guard := some (6, false) }) := by kernel_rfl
      obtain rfl := Option.some.inj (hlit.symm.trans hoi)
      have r3 : b.tmps.getD 3 undef = (.pointer (some ⟨kt, 0, none⟩)) := rd ((hT.old 3 (by kernel_rfl)).trans t3)
      refine op_go hoi (want_yes rfl (d := 44) (by kernel_rfl) (hT.at 6 (by kernel_rfl) (pre_of hpre 6 (by kernel_rfl)))) fun K hK => ?_
      clear hT hpre hun hlit hoi
      go_simp
      exact hK _ _ ⟨(), fun _ _ => rfl, rfl, tc0, tc1, tc2, tc3, tc4, tc5, rc0, rc1, rc2, rc3, uc0, uc1, uc2, uc3, oc0, oc1, oc2, oc3, HB⟩
    · have hlit : (regOps Try.f12 6)[8]? = some ({ dst := some 46, op := Op.load 48 (Operand.tmp 9), type := 48, pos := "law.go:81", after := #[{ on := 6, ground := Ground.guard }], guard := some (6, false) }) := by kernel_rfl
      obtain rfl := Option.some.inj (hlit.symm.trans hoi)
      have r9 : b.tmps.getD 9 undef = (.pointer (some ⟨ko, 0, none⟩)) := rd ((hT.old 9 (by kernel_rfl)).trans t9)
      refine op_go hoi (want_yes rfl (d := 44) (by kernel_rfl) (hT.at 6 (by kernel_rfl) (pre_of hpre 6 (by kernel_rfl)))) fun K hK => ?_
      clear hT hpre hun hlit hoi
      go_simp
      exact hK _ _ ⟨(), fun _ _ => rfl, rfl, tc0, tc1, tc2, tc3, tc4, tc5, rc0, rc1, rc2, rc3, uc0, uc1, uc2, uc3, oc0, oc1, oc2, oc3, HB⟩
    · have hlit : (regOps Try.f12 6)[9]? = some ({ dst := some 47, op := Op.call { callee := Callee.value (Operand.func 43), args := #[Operand.tmp 45, Operand.tmp 46], argTypes := #[25, 48] }, type := 4, pos := "law.go:81", after := #[{ on := 7, ground := Ground.data }, { on := 8, ground := Ground.data }, { on := 6, ground := Ground.chain }, { on := 6, ground := Ground.guard }], guard := some (6, false) }) := by kernel_rfl
      obtain rfl := Option.some.inj (hlit.symm.trans hoi)
      have r45 : b.tmps.getD 45 undef = (.agg #[.int .i64 d0, .int .i64 d1, .int .i64 e0, .int .i64 e1, .int .i64 f0, .int .i64 f1]) := rd (hT.at 7 (by kernel_rfl) (pre_of hpre 7 (by kernel_rfl)))
      have r46 : b.tmps.getD 46 undef = (.agg #[.int .i64 m, .int .i64 r1, .int .i64 r2, .int .i64 r3]) := rd (hT.at 8 (by kernel_rfl) (pre_of hpre 8 (by kernel_rfl)))
      refine op_go hoi (want_yes rfl (d := 44) (by kernel_rfl) (hT.at 6 (by kernel_rfl) (pre_of hpre 6 (by kernel_rfl)))) fun K hK => ?_
      clear hT hpre hun hlit hoi
      go_simp
      go_at_call 43
      refine (ovl43 _ _ _ _ _ _ _ _ _ _ _).mono ?_; rw [m3]; rintro e w2 ⟨rfl, hb⟩; replace tc0 := ck hb (a := ⟨kt, 0, none⟩) (v := .int .i64 d0) (by go_simp); replace tc1 := ck hb (a := ⟨kt, 1, none⟩) (v := .int .i64 d1) (by go_simp); replace tc2 := ck hb (a := ⟨kt, 2, none⟩) (v := .int .i64 e0) (by go_simp); replace tc3 := ck hb (a := ⟨kt, 3, none⟩) (v := .int .i64 e1) (by go_simp); replace tc4 := ck hb (a := ⟨kt, 4, none⟩) (v := .int .i64 f0) (by go_simp); replace tc5 := ck hb (a := ⟨kt, 5, none⟩) (v := .int .i64 f1) (by go_simp); replace rc0 := ck hb (a := ⟨kr, 0, none⟩) (v := .int .i64 r0) (by go_simp); replace rc1 := ck hb (a := ⟨kr, 1, none⟩) (v := .int .i64 r1) (by go_simp); replace rc2 := ck hb (a := ⟨kr, 2, none⟩) (v := .int .i64 r2) (by go_simp); replace rc3 := ck hb (a := ⟨kr, 3, none⟩) (v := .int .i64 r3) (by go_simp); replace uc0 := ck hb (a := ⟨ku, 0, none⟩) (v := .int .i64 r0) (by go_simp); replace uc1 := ck hb (a := ⟨ku, 1, none⟩) (v := .int .i64 r1) (by go_simp); replace uc2 := ck hb (a := ⟨ku, 2, none⟩) (v := .int .i64 l) (by go_simp); replace uc3 := ck hb (a := ⟨ku, 3, none⟩) (v := .int .i64 r3) (by go_simp); replace oc0 := ck hb (a := ⟨ko, 0, none⟩) (v := .int .i64 m) (by go_simp); replace oc1 := ck hb (a := ⟨ko, 1, none⟩) (v := .int .i64 r1) (by go_simp); replace oc2 := ck hb (a := ⟨ko, 2, none⟩) (v := .int .i64 r2) (by go_simp); replace oc3 := ck hb (a := ⟨ko, 3, none⟩) (v := .int .i64 r3) (by go_simp); replace HB : Below W.heap.size W w2 := bt HB hb; clear hb
      exact hK _ _ ⟨(), fun _ _ => rfl, rfl, tc0, tc1, tc2, tc3, tc4, tc5, rc0, rc1, rc2, rc3, uc0, uc1, uc2, uc3, oc0, oc1, oc2, oc3, HB⟩
    · have hlit : (regOps Try.f12 6)[10]? = some ({ dst := some 48, op := Op.pick (Operand.tmp 44) (Operand.const (Value.bool true)) (Operand.tmp 47), type := 4, pos := "law.go:81", after := #[{ on := 6, ground := Ground.data }, { on := 9, ground := Ground.data }], guard := none }) := by kernel_rfl
      obtain rfl := Option.some.inj (hlit.symm.trans hoi)
      have r44 : b.tmps.getD 44 undef = (.bool false) := rd (hT.at 6 (by kernel_rfl) (pre_of hpre 6 (by kernel_rfl)))
      have r47 : b.tmps.getD 47 undef = (.bool true) := rd (hT.at 9 (by kernel_rfl) (pre_of hpre 9 (by kernel_rfl)))
      refine op_go hoi (want_all rfl) fun K hK => ?_
      clear hT hpre hun hlit hoi
      go_simp
      exact hK _ _ ⟨(), fun _ _ => rfl, rfl, tc0, tc1, tc2, tc3, tc4, tc5, rc0, rc1, rc2, rc3, uc0, uc1, uc2, uc3, oc0, oc1, oc2, oc3, HB⟩
    · have hlit : (regOps Try.f12 6)[11]? = some ({ dst := some 49, op := Op.binOp BinOp.eql 4 (Operand.tmp 40) (Operand.tmp 48) 4, type := 4, pos := "law.go:81", after := #[{ on := 2, ground := Ground.data }, { on := 10, ground := Ground.data }], guard := none }) := by kernel_rfl
      obtain rfl := Option.some.inj (hlit.symm.trans hoi)
      have r40 : b.tmps.getD 40 undef = (.bool true) := rd (hT.at 2 (by kernel_rfl) (pre_of hpre 2 (by kernel_rfl)))
      have r48 : b.tmps.getD 48 undef = (.bool true) := rd (hT.at 10 (by kernel_rfl) (pre_of hpre 10 (by kernel_rfl)))
      refine op_go hoi (want_all rfl) fun K hK => ?_
      clear hT hpre hun hlit hoi
      go_simp
      exact hK _ _ ⟨(), fun _ _ => rfl, rfl, tc0, tc1, tc2, tc3, tc4, tc5, rc0, rc1, rc2, rc3, uc0, uc1, uc2, uc3, oc0, oc1, oc2, oc3, HB⟩
    · have hlit : (regOps Try.f12 6)[12]? = some ({ dst := some 50, op := Op.move (Operand.tmp 49), type := 4, pos := "law.go:81", after := #[{ on := 11, ground := Ground.data }, { on := 9, ground := Ground.chain }], guard := none }) := by kernel_rfl
      obtain rfl := Option.some.inj (hlit.symm.trans hoi)
      have r49 : b.tmps.getD 49 undef = (.bool true) := rd (hT.at 11 (by kernel_rfl) (pre_of hpre 11 (by kernel_rfl)))
      refine op_go hoi (want_all rfl) fun K hK => ?_
      clear hT hpre hun hlit hoi
      go_simp
      exact hK _ _ ⟨(), fun _ _ => rfl, rfl, tc0, tc1, tc2, tc3, tc4, tc5, rc0, rc1, rc2, rc3, uc0, uc1, uc2, uc3, oc0, oc1, oc2, oc3, HB⟩
    · have hlit : (regOps Try.f12 6)[13]? = some ({ dst := some 51, op := Op.call { callee := Callee.value (Operand.func 47), args := #[], argTypes := #[] }, type := 4, pos := "law.go:81", after := #[{ on := 12, ground := Ground.chain }, { on := 12, ground := Ground.guard }], guard := some (12, true) }) := by kernel_rfl
      obtain rfl := Option.some.inj (hlit.symm.trans hoi)
      refine op_go hoi (want_yes rfl (d := 50) (by kernel_rfl) (hT.at 12 (by kernel_rfl) (pre_of hpre 12 (by kernel_rfl)))) fun K hK => ?_
      clear hT hpre hun hlit hoi
      go_simp
      go_at_call 47
      refine (awake47 _).mono ?_; rintro e w2 ⟨rfl, hb⟩; replace tc0 := ck hb (a := ⟨kt, 0, none⟩) (v := .int .i64 d0) (by go_simp); replace tc1 := ck hb (a := ⟨kt, 1, none⟩) (v := .int .i64 d1) (by go_simp); replace tc2 := ck hb (a := ⟨kt, 2, none⟩) (v := .int .i64 e0) (by go_simp); replace tc3 := ck hb (a := ⟨kt, 3, none⟩) (v := .int .i64 e1) (by go_simp); replace tc4 := ck hb (a := ⟨kt, 4, none⟩) (v := .int .i64 f0) (by go_simp); replace tc5 := ck hb (a := ⟨kt, 5, none⟩) (v := .int .i64 f1) (by go_simp); replace rc0 := ck hb (a := ⟨kr, 0, none⟩) (v := .int .i64 r0) (by go_simp); replace rc1 := ck hb (a := ⟨kr, 1, none⟩) (v := .int .i64 r1) (by go_simp); replace rc2 := ck hb (a := ⟨kr, 2, none⟩) (v := .int .i64 r2) (by go_simp); replace rc3 := ck hb (a := ⟨kr, 3, none⟩) (v := .int .i64 r3) (by go_simp); replace uc0 := ck hb (a := ⟨ku, 0, none⟩) (v := .int .i64 r0) (by go_simp); replace uc1 := ck hb (a := ⟨ku, 1, none⟩) (v := .int .i64 r1) (by go_simp); replace uc2 := ck hb (a := ⟨ku, 2, none⟩) (v := .int .i64 l) (by go_simp); replace uc3 := ck hb (a := ⟨ku, 3, none⟩) (v := .int .i64 r3) (by go_simp); replace oc0 := ck hb (a := ⟨ko, 0, none⟩) (v := .int .i64 m) (by go_simp); replace oc1 := ck hb (a := ⟨ko, 1, none⟩) (v := .int .i64 r1) (by go_simp); replace oc2 := ck hb (a := ⟨ko, 2, none⟩) (v := .int .i64 r2) (by go_simp); replace oc3 := ck hb (a := ⟨ko, 3, none⟩) (v := .int .i64 r3) (by go_simp); replace HB : Below W.heap.size W w2 := bt HB hb; clear hb
      exact hK _ _ ⟨(), fun _ _ => rfl, rfl, tc0, tc1, tc2, tc3, tc4, tc5, rc0, rc1, rc2, rc3, uc0, uc1, uc2, uc3, oc0, oc1, oc2, oc3, HB⟩
    · have hlit : (regOps Try.f12 6)[14]? = some ({ dst := some 52, op := Op.pick (Operand.tmp 50) (Operand.tmp 51) (Operand.const (Value.bool false)), type := 4, pos := "law.go:81", after := #[{ on := 12, ground := Ground.data }, { on := 13, ground := Ground.data }], guard := none }) := by kernel_rfl
      obtain rfl := Option.some.inj (hlit.symm.trans hoi)
      have r50 : b.tmps.getD 50 undef = (.bool true) := rd (hT.at 12 (by kernel_rfl) (pre_of hpre 12 (by kernel_rfl)))
      have r51 : b.tmps.getD 51 undef = (.bool true) := rd (hT.at 13 (by kernel_rfl) (pre_of hpre 13 (by kernel_rfl)))
      refine op_go hoi (want_all rfl) fun K hK => ?_
      clear hT hpre hun hlit hoi
      go_simp
      exact hK _ _ ⟨(), fun _ _ => rfl, rfl, tc0, tc1, tc2, tc3, tc4, tc5, rc0, rc1, rc2, rc3, uc0, uc1, uc2, uc3, oc0, oc1, oc2, oc3, HB⟩
    · have hlit : (regOps Try.f12 6)[15]? = some ({ dst := some 6, op := Op.assign (Operand.tmp 52), type := 4, pos := "law.go:81", after := #[{ on := 14, ground := Ground.data }, { on := 13, ground := Ground.chain }, { on := 0, ground := Ground.phase }, { on := 1, ground := Ground.phase }, { on := 2, ground := Ground.phase }, { on := 3, ground := Ground.phase }, { on := 4, ground := Ground.phase }, { on := 5, ground := Ground.phase }, { on := 6, ground := Ground.phase }, { on := 7, ground := Ground.phase }, { on := 8, ground := Ground.phase }, { on := 9, ground := Ground.phase }, { on := 10, ground := Ground.phase }, { on := 11, ground := Ground.phase }, { on := 12, ground := Ground.phase }, { on := 13, ground := Ground.phase }, { on := 14, ground := Ground.phase }], guard := none }) := by kernel_rfl
      obtain rfl := Option.some.inj (hlit.symm.trans hoi)
      have r52 : b.tmps.getD 52 undef = (.bool true) := rd (hT.at 14 (by kernel_rfl) (pre_of hpre 14 (by kernel_rfl)))
      refine op_go hoi (want_all rfl) fun K hK => ?_
      clear hT hpre hun hlit hoi
      go_simp
      exact hK _ _ ⟨(), fun _ _ => rfl, rfl, tc0, tc1, tc2, tc3, tc4, tc5, rc0, rc1, rc2, rc3, uc0, uc1, uc2, uc3, oc0, oc1, oc2, oc3, HB⟩
  · intro g b w' hT hS
    rw [hT.all ht]
    have hn : (regOps Try.f12 6).size = 16 := by kernel_rfl
    rw [hn]
    exact he w' hS

/-- What each operation of the region leaves. -/
def region12cV (d0 d1 e0 e1 f0 f1 r0 r1 r2 r3 l m : Int) : Nat → Value
  | 0 => .agg #[.int .i64 d0, .int .i64 d1, .int .i64 e0, .int .i64 e1, .int .i64 f0, .int .i64 f1]
  | 1 => .agg #[.int .i64 r0, .int .i64 r1, .int .i64 r2, .int .i64 r3]
  | 2 => .bool false
  | 3 => .agg #[.int .i64 d0, .int .i64 d1, .int .i64 e0, .int .i64 e1, .int .i64 f0, .int .i64 f1]
  | 4 => .agg #[.int .i64 r0, .int .i64 r1, .int .i64 l, .int .i64 r3]
  | 5 => .bool false
  | 6 => .bool false
  | 7 => .agg #[.int .i64 d0, .int .i64 d1, .int .i64 e0, .int .i64 e1, .int .i64 f0, .int .i64 f1]
  | 8 => .agg #[.int .i64 m, .int .i64 r1, .int .i64 r2, .int .i64 r3]
  | 9 => .bool false
  | 10 => .bool false
  | 11 => .bool true
  | 12 => .bool true
  | 13 => .bool true
  | 14 => .bool true
  | 15 => .bool true
  | _ => undef

set_option maxHeartbeats 4000000 in
set_option maxRecDepth 100000 in
theorem region12c (d0 d1 e0 e1 f0 f1 r0 r1 r2 r3 l m : Int) (kt kr ku ko : Nat) (W : World) (m1 : ovl ⟨⟨d0, d1⟩, ⟨e0, e1⟩, ⟨f0, f1⟩⟩ r0 r1 r2 r3 = false) (m2 : ovl ⟨⟨d0, d1⟩, ⟨e0, e1⟩, ⟨f0, f1⟩⟩ r0 r1 l r3 = false) (m3 : ovl ⟨⟨d0, d1⟩, ⟨e0, e1⟩, ⟨f0, f1⟩⟩ m r1 r2 r3 = false) {id : Nat} {ops : Array Oper} {Q : Exit → Act → World → Prop} {a : Act} {w : World}
    (ho : ops = (regOps Try.f12 6)) (hsz : a.tmps.size = 53) (t3 : a.tmps[3]? = some (.pointer (some ⟨kt, 0, none⟩))) (t4 : a.tmps[4]? = some (.pointer (some ⟨kr, 0, none⟩))) (t8 : a.tmps[8]? = some (.pointer (some ⟨ku, 0, none⟩))) (t9 : a.tmps[9]? = some (.pointer (some ⟨ko, 0, none⟩)))
    (h0 : w.drew.cell? ⟨kt, 0, none⟩ = some (.int .i64 d0) ∧ w.drew.cell? ⟨kt, 1, none⟩ = some (.int .i64 d1) ∧ w.drew.cell? ⟨kt, 2, none⟩ = some (.int .i64 e0) ∧ w.drew.cell? ⟨kt, 3, none⟩ = some (.int .i64 e1) ∧ w.drew.cell? ⟨kt, 4, none⟩ = some (.int .i64 f0) ∧ w.drew.cell? ⟨kt, 5, none⟩ = some (.int .i64 f1) ∧ w.drew.cell? ⟨kr, 0, none⟩ = some (.int .i64 r0) ∧ w.drew.cell? ⟨kr, 1, none⟩ = some (.int .i64 r1) ∧ w.drew.cell? ⟨kr, 2, none⟩ = some (.int .i64 r2) ∧ w.drew.cell? ⟨kr, 3, none⟩ = some (.int .i64 r3) ∧ w.drew.cell? ⟨ku, 0, none⟩ = some (.int .i64 r0) ∧ w.drew.cell? ⟨ku, 1, none⟩ = some (.int .i64 r1) ∧ w.drew.cell? ⟨ku, 2, none⟩ = some (.int .i64 l) ∧ w.drew.cell? ⟨ku, 3, none⟩ = some (.int .i64 r3) ∧ w.drew.cell? ⟨ko, 0, none⟩ = some (.int .i64 m) ∧ w.drew.cell? ⟨ko, 1, none⟩ = some (.int .i64 r1) ∧ w.drew.cell? ⟨ko, 2, none⟩ = some (.int .i64 r2) ∧ w.drew.cell? ⟨ko, 3, none⟩ = some (.int .i64 r3) ∧ Below W.heap.size W w.drew)
    (he : ∀ w', w'.cell? ⟨kt, 0, none⟩ = some (.int .i64 d0) ∧ w'.cell? ⟨kt, 1, none⟩ = some (.int .i64 d1) ∧ w'.cell? ⟨kt, 2, none⟩ = some (.int .i64 e0) ∧ w'.cell? ⟨kt, 3, none⟩ = some (.int .i64 e1) ∧ w'.cell? ⟨kt, 4, none⟩ = some (.int .i64 f0) ∧ w'.cell? ⟨kt, 5, none⟩ = some (.int .i64 f1) ∧ w'.cell? ⟨kr, 0, none⟩ = some (.int .i64 r0) ∧ w'.cell? ⟨kr, 1, none⟩ = some (.int .i64 r1) ∧ w'.cell? ⟨kr, 2, none⟩ = some (.int .i64 r2) ∧ w'.cell? ⟨kr, 3, none⟩ = some (.int .i64 r3) ∧ w'.cell? ⟨ku, 0, none⟩ = some (.int .i64 r0) ∧ w'.cell? ⟨ku, 1, none⟩ = some (.int .i64 r1) ∧ w'.cell? ⟨ku, 2, none⟩ = some (.int .i64 l) ∧ w'.cell? ⟨ku, 3, none⟩ = some (.int .i64 r3) ∧ w'.cell? ⟨ko, 0, none⟩ = some (.int .i64 m) ∧ w'.cell? ⟨ko, 1, none⟩ = some (.int .i64 r1) ∧ w'.cell? ⟨ko, 2, none⟩ = some (.int .i64 r2) ∧ w'.cell? ⟨ko, 3, none⟩ = some (.int .i64 r3) ∧ Below W.heap.size W w' → Q .normal ⟨((((((((((((((((a.tmps.setIfInBounds 38 (.agg #[.int .i64 d0, .int .i64 d1, .int .i64 e0, .int .i64 e1, .int .i64 f0, .int .i64 f1])).setIfInBounds 39 (.agg #[.int .i64 r0, .int .i64 r1, .int .i64 r2, .int .i64 r3])).setIfInBounds 40 (.bool false)).setIfInBounds 41 (.agg #[.int .i64 d0, .int .i64 d1, .int .i64 e0, .int .i64 e1, .int .i64 f0, .int .i64 f1])).setIfInBounds 42 (.agg #[.int .i64 r0, .int .i64 r1, .int .i64 l, .int .i64 r3])).setIfInBounds 43 (.bool false)).setIfInBounds 44 (.bool false)).setIfInBounds 45 (.agg #[.int .i64 d0, .int .i64 d1, .int .i64 e0, .int .i64 e1, .int .i64 f0, .int .i64 f1])).setIfInBounds 46 (.agg #[.int .i64 m, .int .i64 r1, .int .i64 r2, .int .i64 r3])).setIfInBounds 47 (.bool false)).setIfInBounds 48 (.bool false)).setIfInBounds 49 (.bool true)).setIfInBounds 50 (.bool true)).setIfInBounds 51 (.bool true)).setIfInBounds 52 (.bool true)).setIfInBounds 6 (.bool true)), a.defers⟩ w') :
    (Code.region id ops true).wp Try.prog Q a w := by
  have ht : tidy (regOps Try.f12 6) a.tmps.size = true := by rw [hsz]; kernel_rfl
  refine region_tab (G := Unit) (fun _ => (region12cV d0 d1 e0 e1 f0 f1 r0 r1 r2 r3 l m )) (fun _ _ w' => w'.cell? ⟨kt, 0, none⟩ = some (.int .i64 d0) ∧ w'.cell? ⟨kt, 1, none⟩ = some (.int .i64 d1) ∧ w'.cell? ⟨kt, 2, none⟩ = some (.int .i64 e0) ∧ w'.cell? ⟨kt, 3, none⟩ = some (.int .i64 e1) ∧ w'.cell? ⟨kt, 4, none⟩ = some (.int .i64 f0) ∧ w'.cell? ⟨kt, 5, none⟩ = some (.int .i64 f1) ∧ w'.cell? ⟨kr, 0, none⟩ = some (.int .i64 r0) ∧ w'.cell? ⟨kr, 1, none⟩ = some (.int .i64 r1) ∧ w'.cell? ⟨kr, 2, none⟩ = some (.int .i64 r2) ∧ w'.cell? ⟨kr, 3, none⟩ = some (.int .i64 r3) ∧ w'.cell? ⟨ku, 0, none⟩ = some (.int .i64 r0) ∧ w'.cell? ⟨ku, 1, none⟩ = some (.int .i64 r1) ∧ w'.cell? ⟨ku, 2, none⟩ = some (.int .i64 l) ∧ w'.cell? ⟨ku, 3, none⟩ = some (.int .i64 r3) ∧ w'.cell? ⟨ko, 0, none⟩ = some (.int .i64 m) ∧ w'.cell? ⟨ko, 1, none⟩ = some (.int .i64 r1) ∧ w'.cell? ⟨ko, 2, none⟩ = some (.int .i64 r2) ∧ w'.cell? ⟨ko, 3, none⟩ = some (.int .i64 r3) ∧ Below W.heap.size W w') () (by kernel_rfl) ho ht h0 ?_ ?_
  · intro i o hoi g L b w' hun hpre hT hS
    clear he h0 ho hsz ht
    have hi : i < (regOps Try.f12 6).size := (Array.getElem?_eq_some_iff.1 hoi).1
    rw [show (regOps Try.f12 6).size = 16 by kernel_rfl] at hi
    obtain ⟨tc0, tc1, tc2, tc3, tc4, tc5, rc0, rc1, rc2, rc3, uc0, uc1, uc2, uc3, oc0, oc1, oc2, oc3, HB⟩ := hS
    have hcases : i = 0 ∨ i = 1 ∨ i = 2 ∨ i = 3 ∨ i = 4 ∨ i = 5 ∨ i = 6 ∨ i = 7 ∨ i = 8 ∨ i = 9 ∨ i = 10 ∨ i = 11 ∨ i = 12 ∨ i = 13 ∨ i = 14 ∨ i = 15 := by omega
    rcases hcases with rfl | rfl | rfl | rfl | rfl | rfl | rfl | rfl | rfl | rfl | rfl | rfl | rfl | rfl | rfl | rfl
    · have hlit : (regOps Try.f12 6)[0]? = some ({ dst := some 38, op := Op.load 25 (Operand.tmp 3), type := 25, pos := "law.go:81", after := #[], guard := none }) := by kernel_rfl
      obtain rfl := Option.some.inj (hlit.symm.trans hoi)
      have r3 : b.tmps.getD 3 undef = (.pointer (some ⟨kt, 0, none⟩)) := rd ((hT.old 3 (by kernel_rfl)).trans t3)
      refine op_go hoi (want_all rfl) fun K hK => ?_
      clear hT hpre hun hlit hoi
      go_simp
      exact hK _ _ ⟨(), fun _ _ => rfl, rfl, tc0, tc1, tc2, tc3, tc4, tc5, rc0, rc1, rc2, rc3, uc0, uc1, uc2, uc3, oc0, oc1, oc2, oc3, HB⟩
    · have hlit : (regOps Try.f12 6)[1]? = some ({ dst := some 39, op := Op.load 48 (Operand.tmp 4), type := 48, pos := "law.go:81", after := #[], guard := none }) := by kernel_rfl
      obtain rfl := Option.some.inj (hlit.symm.trans hoi)
      have r4 : b.tmps.getD 4 undef = (.pointer (some ⟨kr, 0, none⟩)) := rd ((hT.old 4 (by kernel_rfl)).trans t4)
      refine op_go hoi (want_all rfl) fun K hK => ?_
      clear hT hpre hun hlit hoi
      go_simp
      exact hK _ _ ⟨(), fun _ _ => rfl, rfl, tc0, tc1, tc2, tc3, tc4, tc5, rc0, rc1, rc2, rc3, uc0, uc1, uc2, uc3, oc0, oc1, oc2, oc3, HB⟩
    · have hlit : (regOps Try.f12 6)[2]? = some ({ dst := some 40, op := Op.call { callee := Callee.value (Operand.func 43), args := #[Operand.tmp 38, Operand.tmp 39], argTypes := #[25, 48] }, type := 4, pos := "law.go:81", after := #[{ on := 0, ground := Ground.data }, { on := 1, ground := Ground.data }], guard := none }) := by kernel_rfl
      obtain rfl := Option.some.inj (hlit.symm.trans hoi)
      have r38 : b.tmps.getD 38 undef = (.agg #[.int .i64 d0, .int .i64 d1, .int .i64 e0, .int .i64 e1, .int .i64 f0, .int .i64 f1]) := rd (hT.at 0 (by kernel_rfl) (pre_of hpre 0 (by kernel_rfl)))
      have r39 : b.tmps.getD 39 undef = (.agg #[.int .i64 r0, .int .i64 r1, .int .i64 r2, .int .i64 r3]) := rd (hT.at 1 (by kernel_rfl) (pre_of hpre 1 (by kernel_rfl)))
      refine op_go hoi (want_all rfl) fun K hK => ?_
      clear hT hpre hun hlit hoi
      go_simp
      go_at_call 43
      refine (ovl43 _ _ _ _ _ _ _ _ _ _ _).mono ?_; rw [m1]; rintro e w2 ⟨rfl, hb⟩; replace tc0 := ck hb (a := ⟨kt, 0, none⟩) (v := .int .i64 d0) (by go_simp); replace tc1 := ck hb (a := ⟨kt, 1, none⟩) (v := .int .i64 d1) (by go_simp); replace tc2 := ck hb (a := ⟨kt, 2, none⟩) (v := .int .i64 e0) (by go_simp); replace tc3 := ck hb (a := ⟨kt, 3, none⟩) (v := .int .i64 e1) (by go_simp); replace tc4 := ck hb (a := ⟨kt, 4, none⟩) (v := .int .i64 f0) (by go_simp); replace tc5 := ck hb (a := ⟨kt, 5, none⟩) (v := .int .i64 f1) (by go_simp); replace rc0 := ck hb (a := ⟨kr, 0, none⟩) (v := .int .i64 r0) (by go_simp); replace rc1 := ck hb (a := ⟨kr, 1, none⟩) (v := .int .i64 r1) (by go_simp); replace rc2 := ck hb (a := ⟨kr, 2, none⟩) (v := .int .i64 r2) (by go_simp); replace rc3 := ck hb (a := ⟨kr, 3, none⟩) (v := .int .i64 r3) (by go_simp); replace uc0 := ck hb (a := ⟨ku, 0, none⟩) (v := .int .i64 r0) (by go_simp); replace uc1 := ck hb (a := ⟨ku, 1, none⟩) (v := .int .i64 r1) (by go_simp); replace uc2 := ck hb (a := ⟨ku, 2, none⟩) (v := .int .i64 l) (by go_simp); replace uc3 := ck hb (a := ⟨ku, 3, none⟩) (v := .int .i64 r3) (by go_simp); replace oc0 := ck hb (a := ⟨ko, 0, none⟩) (v := .int .i64 m) (by go_simp); replace oc1 := ck hb (a := ⟨ko, 1, none⟩) (v := .int .i64 r1) (by go_simp); replace oc2 := ck hb (a := ⟨ko, 2, none⟩) (v := .int .i64 r2) (by go_simp); replace oc3 := ck hb (a := ⟨ko, 3, none⟩) (v := .int .i64 r3) (by go_simp); replace HB : Below W.heap.size W w2 := bt HB hb; clear hb
      exact hK _ _ ⟨(), fun _ _ => rfl, rfl, tc0, tc1, tc2, tc3, tc4, tc5, rc0, rc1, rc2, rc3, uc0, uc1, uc2, uc3, oc0, oc1, oc2, oc3, HB⟩
    · have hlit : (regOps Try.f12 6)[3]? = some ({ dst := some 41, op := Op.load 25 (Operand.tmp 3), type := 25, pos := "law.go:81", after := #[], guard := none }) := by kernel_rfl
      obtain rfl := Option.some.inj (hlit.symm.trans hoi)
      have r3 : b.tmps.getD 3 undef = (.pointer (some ⟨kt, 0, none⟩)) := rd ((hT.old 3 (by kernel_rfl)).trans t3)
      refine op_go hoi (want_all rfl) fun K hK => ?_
      clear hT hpre hun hlit hoi
      go_simp
      exact hK _ _ ⟨(), fun _ _ => rfl, rfl, tc0, tc1, tc2, tc3, tc4, tc5, rc0, rc1, rc2, rc3, uc0, uc1, uc2, uc3, oc0, oc1, oc2, oc3, HB⟩
    · have hlit : (regOps Try.f12 6)[4]? = some ({ dst := some 42, op := Op.load 48 (Operand.tmp 8), type := 48, pos := "law.go:81", after := #[], guard := none }) := by kernel_rfl
      obtain rfl := Option.some.inj (hlit.symm.trans hoi)
      have r8 : b.tmps.getD 8 undef = (.pointer (some ⟨ku, 0, none⟩)) := rd ((hT.old 8 (by kernel_rfl)).trans t8)
      refine op_go hoi (want_all rfl) fun K hK => ?_
      clear hT hpre hun hlit hoi
      go_simp
      exact hK _ _ ⟨(), fun _ _ => rfl, rfl, tc0, tc1, tc2, tc3, tc4, tc5, rc0, rc1, rc2, rc3, uc0, uc1, uc2, uc3, oc0, oc1, oc2, oc3, HB⟩
    · have hlit : (regOps Try.f12 6)[5]? = some ({ dst := some 43, op := Op.call { callee := Callee.value (Operand.func 43), args := #[Operand.tmp 41, Operand.tmp 42], argTypes := #[25, 48] }, type := 4, pos := "law.go:81", after := #[{ on := 3, ground := Ground.data }, { on := 4, ground := Ground.data }, { on := 2, ground := Ground.chain }], guard := none }) := by kernel_rfl
      obtain rfl := Option.some.inj (hlit.symm.trans hoi)
      have r41 : b.tmps.getD 41 undef = (.agg #[.int .i64 d0, .int .i64 d1, .int .i64 e0, .int .i64 e1, .int .i64 f0, .int .i64 f1]) := rd (hT.at 3 (by kernel_rfl) (pre_of hpre 3 (by kernel_rfl)))
      have r42 : b.tmps.getD 42 undef = (.agg #[.int .i64 r0, .int .i64 r1, .int .i64 l, .int .i64 r3]) := rd (hT.at 4 (by kernel_rfl) (pre_of hpre 4 (by kernel_rfl)))
      refine op_go hoi (want_all rfl) fun K hK => ?_
      clear hT hpre hun hlit hoi
      go_simp
      go_at_call 43
      refine (ovl43 _ _ _ _ _ _ _ _ _ _ _).mono ?_; rw [m2]; rintro e w2 ⟨rfl, hb⟩; replace tc0 := ck hb (a := ⟨kt, 0, none⟩) (v := .int .i64 d0) (by go_simp); replace tc1 := ck hb (a := ⟨kt, 1, none⟩) (v := .int .i64 d1) (by go_simp); replace tc2 := ck hb (a := ⟨kt, 2, none⟩) (v := .int .i64 e0) (by go_simp); replace tc3 := ck hb (a := ⟨kt, 3, none⟩) (v := .int .i64 e1) (by go_simp); replace tc4 := ck hb (a := ⟨kt, 4, none⟩) (v := .int .i64 f0) (by go_simp); replace tc5 := ck hb (a := ⟨kt, 5, none⟩) (v := .int .i64 f1) (by go_simp); replace rc0 := ck hb (a := ⟨kr, 0, none⟩) (v := .int .i64 r0) (by go_simp); replace rc1 := ck hb (a := ⟨kr, 1, none⟩) (v := .int .i64 r1) (by go_simp); replace rc2 := ck hb (a := ⟨kr, 2, none⟩) (v := .int .i64 r2) (by go_simp); replace rc3 := ck hb (a := ⟨kr, 3, none⟩) (v := .int .i64 r3) (by go_simp); replace uc0 := ck hb (a := ⟨ku, 0, none⟩) (v := .int .i64 r0) (by go_simp); replace uc1 := ck hb (a := ⟨ku, 1, none⟩) (v := .int .i64 r1) (by go_simp); replace uc2 := ck hb (a := ⟨ku, 2, none⟩) (v := .int .i64 l) (by go_simp); replace uc3 := ck hb (a := ⟨ku, 3, none⟩) (v := .int .i64 r3) (by go_simp); replace oc0 := ck hb (a := ⟨ko, 0, none⟩) (v := .int .i64 m) (by go_simp); replace oc1 := ck hb (a := ⟨ko, 1, none⟩) (v := .int .i64 r1) (by go_simp); replace oc2 := ck hb (a := ⟨ko, 2, none⟩) (v := .int .i64 r2) (by go_simp); replace oc3 := ck hb (a := ⟨ko, 3, none⟩) (v := .int .i64 r3) (by go_simp); replace HB : Below W.heap.size W w2 := bt HB hb; clear hb
      exact hK _ _ ⟨(), fun _ _ => rfl, rfl, tc0, tc1, tc2, tc3, tc4, tc5, rc0, rc1, rc2, rc3, uc0, uc1, uc2, uc3, oc0, oc1, oc2, oc3, HB⟩
    · have hlit : (regOps Try.f12 6)[6]? = some ({ dst := some 44, op := Op.move (Operand.tmp 43), type := 4, pos := "law.go:81", after := #[{ on := 5, ground := Ground.data }, { on := 5, ground := Ground.chain }], guard := none }) := by kernel_rfl
      obtain rfl := Option.some.inj (hlit.symm.trans hoi)
      have r43 : b.tmps.getD 43 undef = (.bool false) := rd (hT.at 5 (by kernel_rfl) (pre_of hpre 5 (by kernel_rfl)))
      refine op_go hoi (want_all rfl) fun K hK => ?_
      clear hT hpre hun hlit hoi
      go_simp
      exact hK _ _ ⟨(), fun _ _ => rfl, rfl, tc0, tc1, tc2, tc3, tc4, tc5, rc0, rc1, rc2, rc3, uc0, uc1, uc2, uc3, oc0, oc1, oc2, oc3, HB⟩
    · have hlit : (regOps Try.f12 6)[7]? = some ({ dst := some 45, op := Op.load 25 (Operand.tmp 3), type := 25, pos := "law.go:81", after := #[{ on := 6, ground := Ground.guard }], guard := some (6, false) }) := by kernel_rfl
      obtain rfl := Option.some.inj (hlit.symm.trans hoi)
      have r3 : b.tmps.getD 3 undef = (.pointer (some ⟨kt, 0, none⟩)) := rd ((hT.old 3 (by kernel_rfl)).trans t3)
      refine op_go hoi (want_yes rfl (d := 44) (by kernel_rfl) (hT.at 6 (by kernel_rfl) (pre_of hpre 6 (by kernel_rfl)))) fun K hK => ?_
      clear hT hpre hun hlit hoi
      go_simp
      exact hK _ _ ⟨(), fun _ _ => rfl, rfl, tc0, tc1, tc2, tc3, tc4, tc5, rc0, rc1, rc2, rc3, uc0, uc1, uc2, uc3, oc0, oc1, oc2, oc3, HB⟩
    · have hlit : (regOps Try.f12 6)[8]? = some ({ dst := some 46, op := Op.load 48 (Operand.tmp 9), type := 48, pos := "law.go:81", after := #[{ on := 6, ground := Ground.guard }], guard := some (6, false) }) := by kernel_rfl
      obtain rfl := Option.some.inj (hlit.symm.trans hoi)
      have r9 : b.tmps.getD 9 undef = (.pointer (some ⟨ko, 0, none⟩)) := rd ((hT.old 9 (by kernel_rfl)).trans t9)
      refine op_go hoi (want_yes rfl (d := 44) (by kernel_rfl) (hT.at 6 (by kernel_rfl) (pre_of hpre 6 (by kernel_rfl)))) fun K hK => ?_
      clear hT hpre hun hlit hoi
      go_simp
      exact hK _ _ ⟨(), fun _ _ => rfl, rfl, tc0, tc1, tc2, tc3, tc4, tc5, rc0, rc1, rc2, rc3, uc0, uc1, uc2, uc3, oc0, oc1, oc2, oc3, HB⟩
    · have hlit : (regOps Try.f12 6)[9]? = some ({ dst := some 47, op := Op.call { callee := Callee.value (Operand.func 43), args := #[Operand.tmp 45, Operand.tmp 46], argTypes := #[25, 48] }, type := 4, pos := "law.go:81", after := #[{ on := 7, ground := Ground.data }, { on := 8, ground := Ground.data }, { on := 6, ground := Ground.chain }, { on := 6, ground := Ground.guard }], guard := some (6, false) }) := by kernel_rfl
      obtain rfl := Option.some.inj (hlit.symm.trans hoi)
      have r45 : b.tmps.getD 45 undef = (.agg #[.int .i64 d0, .int .i64 d1, .int .i64 e0, .int .i64 e1, .int .i64 f0, .int .i64 f1]) := rd (hT.at 7 (by kernel_rfl) (pre_of hpre 7 (by kernel_rfl)))
      have r46 : b.tmps.getD 46 undef = (.agg #[.int .i64 m, .int .i64 r1, .int .i64 r2, .int .i64 r3]) := rd (hT.at 8 (by kernel_rfl) (pre_of hpre 8 (by kernel_rfl)))
      refine op_go hoi (want_yes rfl (d := 44) (by kernel_rfl) (hT.at 6 (by kernel_rfl) (pre_of hpre 6 (by kernel_rfl)))) fun K hK => ?_
      clear hT hpre hun hlit hoi
      go_simp
      go_at_call 43
      refine (ovl43 _ _ _ _ _ _ _ _ _ _ _).mono ?_; rw [m3]; rintro e w2 ⟨rfl, hb⟩; replace tc0 := ck hb (a := ⟨kt, 0, none⟩) (v := .int .i64 d0) (by go_simp); replace tc1 := ck hb (a := ⟨kt, 1, none⟩) (v := .int .i64 d1) (by go_simp); replace tc2 := ck hb (a := ⟨kt, 2, none⟩) (v := .int .i64 e0) (by go_simp); replace tc3 := ck hb (a := ⟨kt, 3, none⟩) (v := .int .i64 e1) (by go_simp); replace tc4 := ck hb (a := ⟨kt, 4, none⟩) (v := .int .i64 f0) (by go_simp); replace tc5 := ck hb (a := ⟨kt, 5, none⟩) (v := .int .i64 f1) (by go_simp); replace rc0 := ck hb (a := ⟨kr, 0, none⟩) (v := .int .i64 r0) (by go_simp); replace rc1 := ck hb (a := ⟨kr, 1, none⟩) (v := .int .i64 r1) (by go_simp); replace rc2 := ck hb (a := ⟨kr, 2, none⟩) (v := .int .i64 r2) (by go_simp); replace rc3 := ck hb (a := ⟨kr, 3, none⟩) (v := .int .i64 r3) (by go_simp); replace uc0 := ck hb (a := ⟨ku, 0, none⟩) (v := .int .i64 r0) (by go_simp); replace uc1 := ck hb (a := ⟨ku, 1, none⟩) (v := .int .i64 r1) (by go_simp); replace uc2 := ck hb (a := ⟨ku, 2, none⟩) (v := .int .i64 l) (by go_simp); replace uc3 := ck hb (a := ⟨ku, 3, none⟩) (v := .int .i64 r3) (by go_simp); replace oc0 := ck hb (a := ⟨ko, 0, none⟩) (v := .int .i64 m) (by go_simp); replace oc1 := ck hb (a := ⟨ko, 1, none⟩) (v := .int .i64 r1) (by go_simp); replace oc2 := ck hb (a := ⟨ko, 2, none⟩) (v := .int .i64 r2) (by go_simp); replace oc3 := ck hb (a := ⟨ko, 3, none⟩) (v := .int .i64 r3) (by go_simp); replace HB : Below W.heap.size W w2 := bt HB hb; clear hb
      exact hK _ _ ⟨(), fun _ _ => rfl, rfl, tc0, tc1, tc2, tc3, tc4, tc5, rc0, rc1, rc2, rc3, uc0, uc1, uc2, uc3, oc0, oc1, oc2, oc3, HB⟩
    · have hlit : (regOps Try.f12 6)[10]? = some ({ dst := some 48, op := Op.pick (Operand.tmp 44) (Operand.const (Value.bool true)) (Operand.tmp 47), type := 4, pos := "law.go:81", after := #[{ on := 6, ground := Ground.data }, { on := 9, ground := Ground.data }], guard := none }) := by kernel_rfl
      obtain rfl := Option.some.inj (hlit.symm.trans hoi)
      have r44 : b.tmps.getD 44 undef = (.bool false) := rd (hT.at 6 (by kernel_rfl) (pre_of hpre 6 (by kernel_rfl)))
      have r47 : b.tmps.getD 47 undef = (.bool false) := rd (hT.at 9 (by kernel_rfl) (pre_of hpre 9 (by kernel_rfl)))
      refine op_go hoi (want_all rfl) fun K hK => ?_
      clear hT hpre hun hlit hoi
      go_simp
      exact hK _ _ ⟨(), fun _ _ => rfl, rfl, tc0, tc1, tc2, tc3, tc4, tc5, rc0, rc1, rc2, rc3, uc0, uc1, uc2, uc3, oc0, oc1, oc2, oc3, HB⟩
    · have hlit : (regOps Try.f12 6)[11]? = some ({ dst := some 49, op := Op.binOp BinOp.eql 4 (Operand.tmp 40) (Operand.tmp 48) 4, type := 4, pos := "law.go:81", after := #[{ on := 2, ground := Ground.data }, { on := 10, ground := Ground.data }], guard := none }) := by kernel_rfl
      obtain rfl := Option.some.inj (hlit.symm.trans hoi)
      have r40 : b.tmps.getD 40 undef = (.bool false) := rd (hT.at 2 (by kernel_rfl) (pre_of hpre 2 (by kernel_rfl)))
      have r48 : b.tmps.getD 48 undef = (.bool false) := rd (hT.at 10 (by kernel_rfl) (pre_of hpre 10 (by kernel_rfl)))
      refine op_go hoi (want_all rfl) fun K hK => ?_
      clear hT hpre hun hlit hoi
      go_simp
      exact hK _ _ ⟨(), fun _ _ => rfl, rfl, tc0, tc1, tc2, tc3, tc4, tc5, rc0, rc1, rc2, rc3, uc0, uc1, uc2, uc3, oc0, oc1, oc2, oc3, HB⟩
    · have hlit : (regOps Try.f12 6)[12]? = some ({ dst := some 50, op := Op.move (Operand.tmp 49), type := 4, pos := "law.go:81", after := #[{ on := 11, ground := Ground.data }, { on := 9, ground := Ground.chain }], guard := none }) := by kernel_rfl
      obtain rfl := Option.some.inj (hlit.symm.trans hoi)
      have r49 : b.tmps.getD 49 undef = (.bool true) := rd (hT.at 11 (by kernel_rfl) (pre_of hpre 11 (by kernel_rfl)))
      refine op_go hoi (want_all rfl) fun K hK => ?_
      clear hT hpre hun hlit hoi
      go_simp
      exact hK _ _ ⟨(), fun _ _ => rfl, rfl, tc0, tc1, tc2, tc3, tc4, tc5, rc0, rc1, rc2, rc3, uc0, uc1, uc2, uc3, oc0, oc1, oc2, oc3, HB⟩
    · have hlit : (regOps Try.f12 6)[13]? = some ({ dst := some 51, op := Op.call { callee := Callee.value (Operand.func 47), args := #[], argTypes := #[] }, type := 4, pos := "law.go:81", after := #[{ on := 12, ground := Ground.chain }, { on := 12, ground := Ground.guard }], guard := some (12, true) }) := by kernel_rfl
      obtain rfl := Option.some.inj (hlit.symm.trans hoi)
      refine op_go hoi (want_yes rfl (d := 50) (by kernel_rfl) (hT.at 12 (by kernel_rfl) (pre_of hpre 12 (by kernel_rfl)))) fun K hK => ?_
      clear hT hpre hun hlit hoi
      go_simp
      go_at_call 47
      refine (awake47 _).mono ?_; rintro e w2 ⟨rfl, hb⟩; replace tc0 := ck hb (a := ⟨kt, 0, none⟩) (v := .int .i64 d0) (by go_simp); replace tc1 := ck hb (a := ⟨kt, 1, none⟩) (v := .int .i64 d1) (by go_simp); replace tc2 := ck hb (a := ⟨kt, 2, none⟩) (v := .int .i64 e0) (by go_simp); replace tc3 := ck hb (a := ⟨kt, 3, none⟩) (v := .int .i64 e1) (by go_simp); replace tc4 := ck hb (a := ⟨kt, 4, none⟩) (v := .int .i64 f0) (by go_simp); replace tc5 := ck hb (a := ⟨kt, 5, none⟩) (v := .int .i64 f1) (by go_simp); replace rc0 := ck hb (a := ⟨kr, 0, none⟩) (v := .int .i64 r0) (by go_simp); replace rc1 := ck hb (a := ⟨kr, 1, none⟩) (v := .int .i64 r1) (by go_simp); replace rc2 := ck hb (a := ⟨kr, 2, none⟩) (v := .int .i64 r2) (by go_simp); replace rc3 := ck hb (a := ⟨kr, 3, none⟩) (v := .int .i64 r3) (by go_simp); replace uc0 := ck hb (a := ⟨ku, 0, none⟩) (v := .int .i64 r0) (by go_simp); replace uc1 := ck hb (a := ⟨ku, 1, none⟩) (v := .int .i64 r1) (by go_simp); replace uc2 := ck hb (a := ⟨ku, 2, none⟩) (v := .int .i64 l) (by go_simp); replace uc3 := ck hb (a := ⟨ku, 3, none⟩) (v := .int .i64 r3) (by go_simp); replace oc0 := ck hb (a := ⟨ko, 0, none⟩) (v := .int .i64 m) (by go_simp); replace oc1 := ck hb (a := ⟨ko, 1, none⟩) (v := .int .i64 r1) (by go_simp); replace oc2 := ck hb (a := ⟨ko, 2, none⟩) (v := .int .i64 r2) (by go_simp); replace oc3 := ck hb (a := ⟨ko, 3, none⟩) (v := .int .i64 r3) (by go_simp); replace HB : Below W.heap.size W w2 := bt HB hb; clear hb
      exact hK _ _ ⟨(), fun _ _ => rfl, rfl, tc0, tc1, tc2, tc3, tc4, tc5, rc0, rc1, rc2, rc3, uc0, uc1, uc2, uc3, oc0, oc1, oc2, oc3, HB⟩
    · have hlit : (regOps Try.f12 6)[14]? = some ({ dst := some 52, op := Op.pick (Operand.tmp 50) (Operand.tmp 51) (Operand.const (Value.bool false)), type := 4, pos := "law.go:81", after := #[{ on := 12, ground := Ground.data }, { on := 13, ground := Ground.data }], guard := none }) := by kernel_rfl
      obtain rfl := Option.some.inj (hlit.symm.trans hoi)
      have r50 : b.tmps.getD 50 undef = (.bool true) := rd (hT.at 12 (by kernel_rfl) (pre_of hpre 12 (by kernel_rfl)))
      have r51 : b.tmps.getD 51 undef = (.bool true) := rd (hT.at 13 (by kernel_rfl) (pre_of hpre 13 (by kernel_rfl)))
      refine op_go hoi (want_all rfl) fun K hK => ?_
      clear hT hpre hun hlit hoi
      go_simp
      exact hK _ _ ⟨(), fun _ _ => rfl, rfl, tc0, tc1, tc2, tc3, tc4, tc5, rc0, rc1, rc2, rc3, uc0, uc1, uc2, uc3, oc0, oc1, oc2, oc3, HB⟩
    · have hlit : (regOps Try.f12 6)[15]? = some ({ dst := some 6, op := Op.assign (Operand.tmp 52), type := 4, pos := "law.go:81", after := #[{ on := 14, ground := Ground.data }, { on := 13, ground := Ground.chain }, { on := 0, ground := Ground.phase }, { on := 1, ground := Ground.phase }, { on := 2, ground := Ground.phase }, { on := 3, ground := Ground.phase }, { on := 4, ground := Ground.phase }, { on := 5, ground := Ground.phase }, { on := 6, ground := Ground.phase }, { on := 7, ground := Ground.phase }, { on := 8, ground := Ground.phase }, { on := 9, ground := Ground.phase }, { on := 10, ground := Ground.phase }, { on := 11, ground := Ground.phase }, { on := 12, ground := Ground.phase }, { on := 13, ground := Ground.phase }, { on := 14, ground := Ground.phase }], guard := none }) := by kernel_rfl
      obtain rfl := Option.some.inj (hlit.symm.trans hoi)
      have r52 : b.tmps.getD 52 undef = (.bool true) := rd (hT.at 14 (by kernel_rfl) (pre_of hpre 14 (by kernel_rfl)))
      refine op_go hoi (want_all rfl) fun K hK => ?_
      clear hT hpre hun hlit hoi
      go_simp
      exact hK _ _ ⟨(), fun _ _ => rfl, rfl, tc0, tc1, tc2, tc3, tc4, tc5, rc0, rc1, rc2, rc3, uc0, uc1, uc2, uc3, oc0, oc1, oc2, oc3, HB⟩
  · intro g b w' hT hS
    rw [hT.all ht]
    have hn : (regOps Try.f12 6).size = 16 := by kernel_rfl
    rw [hn]
    exact he w' hS

/-- What each operation of the region leaves. -/
def region12vV (r0 r1 r2 r3 : Int) (ku ko : Nat) : Nat → Value
  | 0 => .agg #[.int .i64 r0, .int .i64 r1, .int .i64 r2, .int .i64 r3]
  | 1 => .agg #[.int .i64 r0, .int .i64 r1, .int .i64 r2, .int .i64 r3]
  | 2 => .pointer (some ⟨ku, 0, none⟩)
  | 3 => .pointer (some ⟨ko, 0, none⟩)
  | 4 => undef
  | 5 => undef
  | _ => undef

set_option maxHeartbeats 4000000 in
set_option maxRecDepth 100000 in
theorem region12v (d0 d1 e0 e1 f0 f1 r0 r1 r2 r3 : Int) (kt kr : Nat) (W : World)  {id : Nat} {ops : Array Oper} {Q : Exit → Act → World → Prop} {a : Act} {w : World}
    (ho : ops = (regOps Try.f12 4)) (hsz : a.tmps.size = 53) (t4 : a.tmps[4]? = some (.pointer (some ⟨kr, 0, none⟩)))
    (h0 : w.cell? ⟨kt, 0, none⟩ = some (.int .i64 d0) ∧ w.cell? ⟨kt, 1, none⟩ = some (.int .i64 d1) ∧ w.cell? ⟨kt, 2, none⟩ = some (.int .i64 e0) ∧ w.cell? ⟨kt, 3, none⟩ = some (.int .i64 e1) ∧ w.cell? ⟨kt, 4, none⟩ = some (.int .i64 f0) ∧ w.cell? ⟨kt, 5, none⟩ = some (.int .i64 f1) ∧ w.cell? ⟨kr, 0, none⟩ = some (.int .i64 r0) ∧ w.cell? ⟨kr, 1, none⟩ = some (.int .i64 r1) ∧ w.cell? ⟨kr, 2, none⟩ = some (.int .i64 r2) ∧ w.cell? ⟨kr, 3, none⟩ = some (.int .i64 r3) ∧ Below W.heap.size W w)
    (he : ∀ ku ko w', w'.cell? ⟨kt, 0, none⟩ = some (.int .i64 d0) ∧ w'.cell? ⟨kt, 1, none⟩ = some (.int .i64 d1) ∧ w'.cell? ⟨kt, 2, none⟩ = some (.int .i64 e0) ∧ w'.cell? ⟨kt, 3, none⟩ = some (.int .i64 e1) ∧ w'.cell? ⟨kt, 4, none⟩ = some (.int .i64 f0) ∧ w'.cell? ⟨kt, 5, none⟩ = some (.int .i64 f1) ∧ w'.cell? ⟨kr, 0, none⟩ = some (.int .i64 r0) ∧ w'.cell? ⟨kr, 1, none⟩ = some (.int .i64 r1) ∧ w'.cell? ⟨kr, 2, none⟩ = some (.int .i64 r2) ∧ w'.cell? ⟨kr, 3, none⟩ = some (.int .i64 r3) ∧ Below W.heap.size W w' → w'.cell? ⟨ku, 0, none⟩ = some (.int .i64 r0) ∧ w'.cell? ⟨ku, 1, none⟩ = some (.int .i64 r1) ∧ w'.cell? ⟨ku, 2, none⟩ = some (.int .i64 r2) ∧ w'.cell? ⟨ku, 3, none⟩ = some (.int .i64 r3) ∧ w'.cell? ⟨ko, 0, none⟩ = some (.int .i64 r0) ∧ w'.cell? ⟨ko, 1, none⟩ = some (.int .i64 r1) ∧ w'.cell? ⟨ko, 2, none⟩ = some (.int .i64 r2) ∧ w'.cell? ⟨ko, 3, none⟩ = some (.int .i64 r3) ∧ w'.frozen? ⟨ku, 0, none⟩ = false ∧ w'.frozen? ⟨ku, 1, none⟩ = false ∧ w'.frozen? ⟨ku, 2, none⟩ = false ∧ w'.frozen? ⟨ku, 3, none⟩ = false ∧ w'.frozen? ⟨ko, 0, none⟩ = false ∧ w'.frozen? ⟨ko, 1, none⟩ = false ∧ w'.frozen? ⟨ko, 2, none⟩ = false ∧ w'.frozen? ⟨ko, 3, none⟩ = false ∧ w.heap.size ≤ ku ∧ w.heap.size ≤ ko ∧ ku ≠ ko → Q .normal ⟨((((a.tmps.setIfInBounds 31 (.agg #[.int .i64 r0, .int .i64 r1, .int .i64 r2, .int .i64 r3])).setIfInBounds 32 (.agg #[.int .i64 r0, .int .i64 r1, .int .i64 r2, .int .i64 r3])).setIfInBounds 8 (.pointer (some ⟨ku, 0, none⟩))).setIfInBounds 9 (.pointer (some ⟨ko, 0, none⟩))), a.defers⟩ w') :
    (Code.region id ops true).wp Try.prog Q a w := by
  have ht : tidy (regOps Try.f12 4) a.tmps.size = true := by rw [hsz]; kernel_rfl
  obtain ⟨tc0, tc1, tc2, tc3, tc4, tc5, rc0, rc1, rc2, rc3, HB0⟩ := h0
  have lt_kt := World.block_lt_of_cell? w _ tc0
  have lt_kr := World.block_lt_of_cell? w _ rc0
  have sz0 := HB0.size
  refine region_tab (G := Nat × Nat) (fun g => (region12vV r0 r1 r2 r3  g.1 g.2)) (fun g L w' => w'.cell? ⟨kt, 0, none⟩ = some (.int .i64 d0) ∧ w'.cell? ⟨kt, 1, none⟩ = some (.int .i64 d1) ∧ w'.cell? ⟨kt, 2, none⟩ = some (.int .i64 e0) ∧ w'.cell? ⟨kt, 3, none⟩ = some (.int .i64 e1) ∧ w'.cell? ⟨kt, 4, none⟩ = some (.int .i64 f0) ∧ w'.cell? ⟨kt, 5, none⟩ = some (.int .i64 f1) ∧ w'.cell? ⟨kr, 0, none⟩ = some (.int .i64 r0) ∧ w'.cell? ⟨kr, 1, none⟩ = some (.int .i64 r1) ∧ w'.cell? ⟨kr, 2, none⟩ = some (.int .i64 r2) ∧ w'.cell? ⟨kr, 3, none⟩ = some (.int .i64 r3) ∧ Below W.heap.size W w' ∧ w.heap.size ≤ w'.heap.size ∧ (L 2 = true → w.heap.size ≤ g.1 ∧ w'.frozen? ⟨g.1, 0, none⟩ = false ∧ w'.frozen? ⟨g.1, 1, none⟩ = false ∧ w'.frozen? ⟨g.1, 2, none⟩ = false ∧ w'.frozen? ⟨g.1, 3, none⟩ = false ∧ ∃ u0 u1 u2 u3 : Int, w'.cell? ⟨g.1, 0, none⟩ = some (.int .i64 u0) ∧ w'.cell? ⟨g.1, 1, none⟩ = some (.int .i64 u1) ∧ w'.cell? ⟨g.1, 2, none⟩ = some (.int .i64 u2) ∧ w'.cell? ⟨g.1, 3, none⟩ = some (.int .i64 u3) ∧ (L 4 = true → u0 = r0 ∧ u1 = r1 ∧ u2 = r2 ∧ u3 = r3)) ∧ (L 4 = true → L 2 = true) ∧ (L 3 = true → w.heap.size ≤ g.2 ∧ w'.frozen? ⟨g.2, 0, none⟩ = false ∧ w'.frozen? ⟨g.2, 1, none⟩ = false ∧ w'.frozen? ⟨g.2, 2, none⟩ = false ∧ w'.frozen? ⟨g.2, 3, none⟩ = false ∧ ∃ u0 u1 u2 u3 : Int, w'.cell? ⟨g.2, 0, none⟩ = some (.int .i64 u0) ∧ w'.cell? ⟨g.2, 1, none⟩ = some (.int .i64 u1) ∧ w'.cell? ⟨g.2, 2, none⟩ = some (.int .i64 u2) ∧ w'.cell? ⟨g.2, 3, none⟩ = some (.int .i64 u3) ∧ (L 5 = true → u0 = r0 ∧ u1 = r1 ∧ u2 = r2 ∧ u3 = r3)) ∧ (L 5 = true → L 3 = true) ∧ (L 2 = true → L 3 = true → g.1 ≠ g.2)) (0, 0) (by kernel_rfl) ho ht ⟨tc0, tc1, tc2, tc3, tc4, tc5, rc0, rc1, rc2, rc3, bd HB0, Nat.le_refl _, fun h => (by cases h), fun h => (by cases h), fun h => (by cases h), fun h => (by cases h), fun h => (by cases h)⟩ ?_ ?_
  · intro i o hoi g L b w' hun hpre hT hS
    clear he tc0 tc1 tc2 tc3 tc4 tc5 rc0 rc1 rc2 rc3 ho hsz ht HB0
    have hi : i < (regOps Try.f12 4).size := (Array.getElem?_eq_some_iff.1 hoi).1
    rw [show (regOps Try.f12 4).size = 6 by kernel_rfl] at hi
    obtain ⟨ku, ko⟩ := g
    dsimp only at hT hS
    obtain ⟨tc0, tc1, tc2, tc3, tc4, tc5, rc0, rc1, rc2, rc3, HB, szw, fu, su, fo, so, duo⟩ := hS
    have hcases : i = 0 ∨ i = 1 ∨ i = 2 ∨ i = 3 ∨ i = 4 ∨ i = 5 := by omega
    rcases hcases with rfl | rfl | rfl | rfl | rfl | rfl
    · have hlit : (regOps Try.f12 4)[0]? = some ({ dst := some 31, op := Op.load 48 (Operand.tmp 4), type := 48, pos := "law.go:78", after := #[], guard := none }) := by kernel_rfl
      obtain rfl := Option.some.inj (hlit.symm.trans hoi)
      have r4 : b.tmps.getD 4 undef = (.pointer (some ⟨kr, 0, none⟩)) := rd ((hT.old 4 (by kernel_rfl)).trans t4)
      refine op_go hoi (want_all rfl) fun K hK => ?_
      clear hT hpre hlit hoi
      go_simp
      exact hK _ _ ⟨(ku, ko), fun _ _ => rfl, rfl, tc0, tc1, tc2, tc3, tc4, tc5, rc0, rc1, rc2, rc3, HB, szw, fu, su, fo, so, duo⟩
    · have hlit : (regOps Try.f12 4)[1]? = some ({ dst := some 32, op := Op.load 48 (Operand.tmp 4), type := 48, pos := "law.go:78", after := #[{ on := 4, ground := Ground.gcOnly Departure.lateStores }], guard := none }) := by kernel_rfl
      obtain rfl := Option.some.inj (hlit.symm.trans hoi)
      have r4 : b.tmps.getD 4 undef = (.pointer (some ⟨kr, 0, none⟩)) := rd ((hT.old 4 (by kernel_rfl)).trans t4)
      refine op_go hoi (want_all rfl) fun K hK => ?_
      clear hT hpre hlit hoi
      go_simp
      exact hK _ _ ⟨(ku, ko), fun _ _ => rfl, rfl, tc0, tc1, tc2, tc3, tc4, tc5, rc0, rc1, rc2, rc3, HB, szw, fu, su, fo, so, duo⟩
    · have hlit : (regOps Try.f12 4)[2]? = some ({ dst := some 8, op := Op.alloc 48, type := 0, pos := "law.go:78", after := #[], guard := none }) := by kernel_rfl
      obtain rfl := Option.some.inj (hlit.symm.trans hoi)
      refine op_go hoi (want_all rfl) fun K hK => ?_
      clear hT hpre hlit hoi
      go_simp
      have lw_tc0 := World.block_lt_of_cell? w' _ tc0
      have lw_tc1 := World.block_lt_of_cell? w' _ tc1
      have lw_tc2 := World.block_lt_of_cell? w' _ tc2
      have lw_tc3 := World.block_lt_of_cell? w' _ tc3
      have lw_tc4 := World.block_lt_of_cell? w' _ tc4
      have lw_tc5 := World.block_lt_of_cell? w' _ tc5
      have lw_rc0 := World.block_lt_of_cell? w' _ rc0
      have lw_rc1 := World.block_lt_of_cell? w' _ rc1
      have lw_rc2 := World.block_lt_of_cell? w' _ rc2
      have lw_rc3 := World.block_lt_of_cell? w' _ rc3
      refine hK _ _ ⟨(w'.heap.size, ko), fun j hj => ?_, rfl, by go_simp, by go_simp, by go_simp, by go_simp, by go_simp, by go_simp, by go_simp, by go_simp, by go_simp, by go_simp, ba HB _, by simp; omega, fun _ => ⟨szw, by go_simp, by go_simp, by go_simp, by go_simp, 0, 0, 0, 0, by go_simp, by go_simp, by go_simp, by go_simp, fun h => absurd ((su h).symm.trans hun) (by decide)⟩, fun _ => rfl, fun h => (by obtain ⟨ge, fz0, fz1, fz2, fz3, u0, u1, u2, u3, ce0, ce1, ce2, ce3, us⟩ := fo h; have lq := World.block_lt_of_cell? _ _ ce0; have lp := Nat.ne_of_lt lq; exact ⟨ge, by go_simp, by go_simp, by go_simp, by go_simp, u0, u1, u2, u3, by go_simp, by go_simp, by go_simp, by go_simp, us⟩), so, fun _ h => (by obtain ⟨ge, _, _, _, _, u0, u1, u2, u3, ce0, ce1, ce2, ce3, us⟩ := fo h; exact fun e => Nat.ne_of_lt (World.block_lt_of_cell? _ _ ce0) e.symm)⟩
      by_cases e : j = 2
      · subst e; rw [hun] at hj; cases hj
      · unfold region12vV; split <;> first | rfl | (exact absurd rfl e)
    · have hlit : (regOps Try.f12 4)[3]? = some ({ dst := some 9, op := Op.alloc 48, type := 0, pos := "law.go:78", after := #[], guard := none }) := by kernel_rfl
      obtain rfl := Option.some.inj (hlit.symm.trans hoi)
      refine op_go hoi (want_all rfl) fun K hK => ?_
      clear hT hpre hlit hoi
      go_simp
      have lw_tc0 := World.block_lt_of_cell? w' _ tc0
      have lw_tc1 := World.block_lt_of_cell? w' _ tc1
      have lw_tc2 := World.block_lt_of_cell? w' _ tc2
      have lw_tc3 := World.block_lt_of_cell? w' _ tc3
      have lw_tc4 := World.block_lt_of_cell? w' _ tc4
      have lw_tc5 := World.block_lt_of_cell? w' _ tc5
      have lw_rc0 := World.block_lt_of_cell? w' _ rc0
      have lw_rc1 := World.block_lt_of_cell? w' _ rc1
      have lw_rc2 := World.block_lt_of_cell? w' _ rc2
      have lw_rc3 := World.block_lt_of_cell? w' _ rc3
      refine hK _ _ ⟨(ku, w'.heap.size), fun j hj => ?_, rfl, by go_simp, by go_simp, by go_simp, by go_simp, by go_simp, by go_simp, by go_simp, by go_simp, by go_simp, by go_simp, ba HB _, by simp; omega, fun h => (by obtain ⟨ge, fz0, fz1, fz2, fz3, u0, u1, u2, u3, ce0, ce1, ce2, ce3, us⟩ := fu h; have lq := World.block_lt_of_cell? _ _ ce0; have lp := Nat.ne_of_lt lq; exact ⟨ge, by go_simp, by go_simp, by go_simp, by go_simp, u0, u1, u2, u3, by go_simp, by go_simp, by go_simp, by go_simp, us⟩), su, fun _ => ⟨szw, by go_simp, by go_simp, by go_simp, by go_simp, 0, 0, 0, 0, by go_simp, by go_simp, by go_simp, by go_simp, fun h => absurd ((so h).symm.trans hun) (by decide)⟩, fun _ => rfl, fun h _ => (by obtain ⟨ge, _, _, _, _, u0, u1, u2, u3, ce0, ce1, ce2, ce3, us⟩ := fu h; exact Nat.ne_of_lt (World.block_lt_of_cell? _ _ ce0))⟩
      by_cases e : j = 3
      · subst e; rw [hun] at hj; cases hj
      · unfold region12vV; split <;> first | rfl | (exact absurd rfl e)
    · have hlit : (regOps Try.f12 4)[4]? = some ({ dst := none, op := Op.store 48 (Operand.tmp 8) (Operand.tmp 31), type := 0, pos := "law.go:78", after := #[{ on := 2, ground := Ground.data }, { on := 0, ground := Ground.data }, { on := 0, ground := Ground.phase }, { on := 1, ground := Ground.textOnly Departure.lateStores }, { on := 2, ground := Ground.phase }, { on := 3, ground := Ground.phase }], guard := none }) := by kernel_rfl
      obtain rfl := Option.some.inj (hlit.symm.trans hoi)
      have r8 : b.tmps.getD 8 undef = (.pointer (some ⟨ku, 0, none⟩)) := rd (hT.at 2 (by kernel_rfl) (pre_of hpre 2 (by kernel_rfl)))
      have r31 : b.tmps.getD 31 undef = (.agg #[.int .i64 r0, .int .i64 r1, .int .i64 r2, .int .i64 r3]) := rd (hT.at 0 (by kernel_rfl) (pre_of hpre 0 (by kernel_rfl)))
      have pr : L 2 = true := pre_of hpre 2 (by kernel_rfl)
      obtain ⟨ge, fz0, fz1, fz2, fz3, u0, u1, u2, u3, ce0, ce1, ce2, ce3, -⟩ := fu pr
      have ne_kt : ¬ kt = ku := Nat.ne_of_lt (Nat.lt_of_lt_of_le lt_kt ge)
      have nf_kt : ¬ ku = kt := fun h => ne_kt h.symm
      have ne_kr : ¬ kr = ku := Nat.ne_of_lt (Nat.lt_of_lt_of_le lt_kr ge)
      have nf_kr : ¬ ku = kr := fun h => ne_kr h.symm
      refine op_go hoi (want_all rfl) fun K hK => ?_
      clear hT hpre hlit hoi
      go_simp
      exact hK _ _ ⟨(ku, ko), fun _ _ => rfl, rfl, by go_simp, by go_simp, by go_simp, by go_simp, by go_simp, by go_simp, by go_simp, by go_simp, by go_simp, by go_simp, bs (bs (bs (bs (HB) (Nat.le_trans sz0 ge) _) (Nat.le_trans sz0 ge) _) (Nat.le_trans sz0 ge) _) (Nat.le_trans sz0 ge) _, by simp; omega, fun _ => ⟨ge, by go_simp, by go_simp, by go_simp, by go_simp, r0, r1, r2, r3, by go_simp, by go_simp, by go_simp, by go_simp, fun _ => ⟨rfl, rfl, rfl, rfl⟩⟩, fun _ => pr, fun h => (by have nk := duo pr h; have nj := nk.symm; obtain ⟨gf, gz0, gz1, gz2, gz3, v0, v1, v2, v3, cg0, cg1, cg2, cg3, us⟩ := fo h; exact ⟨gf, by go_simp, by go_simp, by go_simp, by go_simp, v0, v1, v2, v3, by go_simp, by go_simp, by go_simp, by go_simp, us⟩), so, duo⟩
    · have hlit : (regOps Try.f12 4)[5]? = some ({ dst := none, op := Op.store 48 (Operand.tmp 9) (Operand.tmp 32), type := 0, pos := "law.go:78", after := #[{ on := 3, ground := Ground.data }, { on := 1, ground := Ground.data }, { on := 4, ground := Ground.chain }, { on := 0, ground := Ground.phase }, { on := 1, ground := Ground.phase }, { on := 2, ground := Ground.phase }, { on := 3, ground := Ground.phase }, { on := 4, ground := Ground.phase }], guard := none }) := by kernel_rfl
      obtain rfl := Option.some.inj (hlit.symm.trans hoi)
      have r9 : b.tmps.getD 9 undef = (.pointer (some ⟨ko, 0, none⟩)) := rd (hT.at 3 (by kernel_rfl) (pre_of hpre 3 (by kernel_rfl)))
      have r32 : b.tmps.getD 32 undef = (.agg #[.int .i64 r0, .int .i64 r1, .int .i64 r2, .int .i64 r3]) := rd (hT.at 1 (by kernel_rfl) (pre_of hpre 1 (by kernel_rfl)))
      have pr : L 3 = true := pre_of hpre 3 (by kernel_rfl)
      obtain ⟨ge, fz0, fz1, fz2, fz3, u0, u1, u2, u3, ce0, ce1, ce2, ce3, -⟩ := fo pr
      have ne_kt : ¬ kt = ko := Nat.ne_of_lt (Nat.lt_of_lt_of_le lt_kt ge)
      have nf_kt : ¬ ko = kt := fun h => ne_kt h.symm
      have ne_kr : ¬ kr = ko := Nat.ne_of_lt (Nat.lt_of_lt_of_le lt_kr ge)
      have nf_kr : ¬ ko = kr := fun h => ne_kr h.symm
      refine op_go hoi (want_all rfl) fun K hK => ?_
      clear hT hpre hlit hoi
      go_simp
      exact hK _ _ ⟨(ku, ko), fun _ _ => rfl, rfl, by go_simp, by go_simp, by go_simp, by go_simp, by go_simp, by go_simp, by go_simp, by go_simp, by go_simp, by go_simp, bs (bs (bs (bs (HB) (Nat.le_trans sz0 ge) _) (Nat.le_trans sz0 ge) _) (Nat.le_trans sz0 ge) _) (Nat.le_trans sz0 ge) _, by simp; omega, fun h => (by have nk := (duo h pr).symm; have nj := nk.symm; obtain ⟨gf, gz0, gz1, gz2, gz3, v0, v1, v2, v3, cg0, cg1, cg2, cg3, us⟩ := fu h; exact ⟨gf, by go_simp, by go_simp, by go_simp, by go_simp, v0, v1, v2, v3, by go_simp, by go_simp, by go_simp, by go_simp, us⟩), su, fun _ => ⟨ge, by go_simp, by go_simp, by go_simp, by go_simp, r0, r1, r2, r3, by go_simp, by go_simp, by go_simp, by go_simp, fun _ => ⟨rfl, rfl, rfl, rfl⟩⟩, fun _ => pr, duo⟩
  · intro g b w' hT hS
    rw [hT.all ht]
    have hn : (regOps Try.f12 4).size = 6 := by kernel_rfl
    rw [hn] at hS ⊢
    obtain ⟨ku, ko⟩ := g
    dsimp only at hS
    obtain ⟨tc0, tc1, tc2, tc3, tc4, tc5, rc0, rc1, rc2, rc3, HB, szw, fu, su, fo, so, duo⟩ := hS
    obtain ⟨geu, fzu0, fzu1, fzu2, fzu3, uu0, uu1, uu2, uu3, ceu0, ceu1, ceu2, ceu3, usu⟩ := fu rfl
    obtain ⟨rfl, rfl, rfl, rfl⟩ := usu rfl
    obtain ⟨geo, fzo0, fzo1, fzo2, fzo3, uo0, uo1, uo2, uo3, ceo0, ceo1, ceo2, ceo3, uso⟩ := fo rfl
    obtain ⟨rfl, rfl, rfl, rfl⟩ := uso rfl
    exact he ku ko w' ⟨tc0, tc1, tc2, tc3, tc4, tc5, rc0, rc1, rc2, rc3, HB⟩ ⟨ceu0, ceu1, ceu2, ceu3, ceo0, ceo1, ceo2, ceo3, fzu0, fzu1, fzu2, fzu3, fzo0, fzo1, fzo2, fzo3, geu, geo, duo rfl rfl⟩

/-- What each operation of the region leaves. -/
def region12rV (r0 r2 i s k m : Int) (kr : Nat) : Nat → Value
  | 0 => .pointer (some ⟨kr, 0, none⟩)
  | 1 => .int .i64 r0
  | 2 => .int .i64 i
  | 3 => .pointer (some ⟨kr, 2, none⟩)
  | 4 => .int .i64 r2
  | 5 => .pointer (some ⟨kr, 0, none⟩)
  | 6 => .int .i64 r0
  | 7 => .int .i64 s
  | 8 => .int .i64 k
  | 9 => .int .i64 m
  | 10 => .int .i64 m
  | _ => undef

set_option maxHeartbeats 4000000 in
set_option maxRecDepth 100000 in
theorem region12r (d0 d1 e0 e1 f0 f1 r0 r1 r2 r3 i s k m : Int) (kt kr : Nat) (W : World) (eq1 : IntKind.i64.wrap (r2 - r0) = s) (eq2 : IntKind.i64.wrap (r0 + k) = m) (rd23 : ∀ w : World, Calls Try.prog 23 #[.int .i64 i, .int .i64 s] w fun e w' => e = .returned (.int .i64 k) ∧ w = w') {id : Nat} {ops : Array Oper} {Q : Exit → Act → World → Prop} {a : Act} {w : World}
    (ho : ops = (regOps Try.f12 3)) (hsz : a.tmps.size = 53) (t4 : a.tmps[4]? = some (.pointer (some ⟨kr, 0, none⟩))) (t2 : a.tmps[2]? = some (.int .i64 i))
    (h0 : w.drew.cell? ⟨kt, 0, none⟩ = some (.int .i64 d0) ∧ w.drew.cell? ⟨kt, 1, none⟩ = some (.int .i64 d1) ∧ w.drew.cell? ⟨kt, 2, none⟩ = some (.int .i64 e0) ∧ w.drew.cell? ⟨kt, 3, none⟩ = some (.int .i64 e1) ∧ w.drew.cell? ⟨kt, 4, none⟩ = some (.int .i64 f0) ∧ w.drew.cell? ⟨kt, 5, none⟩ = some (.int .i64 f1) ∧ w.drew.cell? ⟨kr, 0, none⟩ = some (.int .i64 r0) ∧ w.drew.cell? ⟨kr, 1, none⟩ = some (.int .i64 r1) ∧ w.drew.cell? ⟨kr, 2, none⟩ = some (.int .i64 r2) ∧ w.drew.cell? ⟨kr, 3, none⟩ = some (.int .i64 r3) ∧ Below W.heap.size W w.drew)
    (he : ∀ w', w'.cell? ⟨kt, 0, none⟩ = some (.int .i64 d0) ∧ w'.cell? ⟨kt, 1, none⟩ = some (.int .i64 d1) ∧ w'.cell? ⟨kt, 2, none⟩ = some (.int .i64 e0) ∧ w'.cell? ⟨kt, 3, none⟩ = some (.int .i64 e1) ∧ w'.cell? ⟨kt, 4, none⟩ = some (.int .i64 f0) ∧ w'.cell? ⟨kt, 5, none⟩ = some (.int .i64 f1) ∧ w'.cell? ⟨kr, 0, none⟩ = some (.int .i64 r0) ∧ w'.cell? ⟨kr, 1, none⟩ = some (.int .i64 r1) ∧ w'.cell? ⟨kr, 2, none⟩ = some (.int .i64 r2) ∧ w'.cell? ⟨kr, 3, none⟩ = some (.int .i64 r3) ∧ Below W.heap.size W w' → Q .normal ⟨(((((((((((a.tmps.setIfInBounds 21 (.pointer (some ⟨kr, 0, none⟩))).setIfInBounds 22 (.int .i64 r0)).setIfInBounds 23 (.int .i64 i)).setIfInBounds 24 (.pointer (some ⟨kr, 2, none⟩))).setIfInBounds 25 (.int .i64 r2)).setIfInBounds 26 (.pointer (some ⟨kr, 0, none⟩))).setIfInBounds 27 (.int .i64 r0)).setIfInBounds 28 (.int .i64 s)).setIfInBounds 29 (.int .i64 k)).setIfInBounds 30 (.int .i64 m)).setIfInBounds 7 (.int .i64 m)), a.defers⟩ w') :
    (Code.region id ops true).wp Try.prog Q a w := by
  have ht : tidy (regOps Try.f12 3) a.tmps.size = true := by rw [hsz]; kernel_rfl
  refine region_tab (G := Unit) (fun _ => (region12rV r0 r2 i s k m kr)) (fun _ _ w' => w'.cell? ⟨kt, 0, none⟩ = some (.int .i64 d0) ∧ w'.cell? ⟨kt, 1, none⟩ = some (.int .i64 d1) ∧ w'.cell? ⟨kt, 2, none⟩ = some (.int .i64 e0) ∧ w'.cell? ⟨kt, 3, none⟩ = some (.int .i64 e1) ∧ w'.cell? ⟨kt, 4, none⟩ = some (.int .i64 f0) ∧ w'.cell? ⟨kt, 5, none⟩ = some (.int .i64 f1) ∧ w'.cell? ⟨kr, 0, none⟩ = some (.int .i64 r0) ∧ w'.cell? ⟨kr, 1, none⟩ = some (.int .i64 r1) ∧ w'.cell? ⟨kr, 2, none⟩ = some (.int .i64 r2) ∧ w'.cell? ⟨kr, 3, none⟩ = some (.int .i64 r3) ∧ Below W.heap.size W w') () (by kernel_rfl) ho ht h0 ?_ ?_
  · intro i o hoi g L b w' hun hpre hT hS
    clear he h0 ho hsz ht
    have hi : i < (regOps Try.f12 3).size := (Array.getElem?_eq_some_iff.1 hoi).1
    rw [show (regOps Try.f12 3).size = 11 by kernel_rfl] at hi
    obtain ⟨tc0, tc1, tc2, tc3, tc4, tc5, rc0, rc1, rc2, rc3, HB⟩ := hS
    have hcases : i = 0 ∨ i = 1 ∨ i = 2 ∨ i = 3 ∨ i = 4 ∨ i = 5 ∨ i = 6 ∨ i = 7 ∨ i = 8 ∨ i = 9 ∨ i = 10 := by omega
    rcases hcases with rfl | rfl | rfl | rfl | rfl | rfl | rfl | rfl | rfl | rfl | rfl
    · have hlit : (regOps Try.f12 3)[0]? = some ({ dst := some 21, op := Op.fieldAddr 48 (Operand.tmp 4) 0, type := 0, pos := "law.go:77", after := #[], guard := none }) := by kernel_rfl
      obtain rfl := Option.some.inj (hlit.symm.trans hoi)
      have r4 : b.tmps.getD 4 undef = (.pointer (some ⟨kr, 0, none⟩)) := rd ((hT.old 4 (by kernel_rfl)).trans t4)
      refine op_go hoi (want_all rfl) fun K hK => ?_
      clear hT hpre hun hlit hoi
      go_simp
      exact hK _ _ ⟨(), fun _ _ => rfl, rfl, tc0, tc1, tc2, tc3, tc4, tc5, rc0, rc1, rc2, rc3, HB⟩
    · have hlit : (regOps Try.f12 3)[1]? = some ({ dst := some 22, op := Op.load 3 (Operand.tmp 21), type := 3, pos := "law.go:77", after := #[{ on := 0, ground := Ground.data }], guard := none }) := by kernel_rfl
      obtain rfl := Option.some.inj (hlit.symm.trans hoi)
      have r21 : b.tmps.getD 21 undef = (.pointer (some ⟨kr, 0, none⟩)) := rd (hT.at 0 (by kernel_rfl) (pre_of hpre 0 (by kernel_rfl)))
      refine op_go hoi (want_all rfl) fun K hK => ?_
      clear hT hpre hun hlit hoi
      go_simp
      exact hK _ _ ⟨(), fun _ _ => rfl, rfl, tc0, tc1, tc2, tc3, tc4, tc5, rc0, rc1, rc2, rc3, HB⟩
    · have hlit : (regOps Try.f12 3)[2]? = some ({ dst := some 23, op := Op.move (Operand.tmp 2), type := 3, pos := "law.go:77", after := #[], guard := none }) := by kernel_rfl
      obtain rfl := Option.some.inj (hlit.symm.trans hoi)
      have r2 : b.tmps.getD 2 undef = (.int .i64 i) := rd ((hT.old 2 (by kernel_rfl)).trans t2)
      refine op_go hoi (want_all rfl) fun K hK => ?_
      clear hT hpre hun hlit hoi
      go_simp
      exact hK _ _ ⟨(), fun _ _ => rfl, rfl, tc0, tc1, tc2, tc3, tc4, tc5, rc0, rc1, rc2, rc3, HB⟩
    · have hlit : (regOps Try.f12 3)[3]? = some ({ dst := some 24, op := Op.fieldAddr 48 (Operand.tmp 4) 2, type := 0, pos := "law.go:77", after := #[], guard := none }) := by kernel_rfl
      obtain rfl := Option.some.inj (hlit.symm.trans hoi)
      have r4 : b.tmps.getD 4 undef = (.pointer (some ⟨kr, 0, none⟩)) := rd ((hT.old 4 (by kernel_rfl)).trans t4)
      refine op_go hoi (want_all rfl) fun K hK => ?_
      clear hT hpre hun hlit hoi
      go_simp
      exact hK _ _ ⟨(), fun _ _ => rfl, rfl, tc0, tc1, tc2, tc3, tc4, tc5, rc0, rc1, rc2, rc3, HB⟩
    · have hlit : (regOps Try.f12 3)[4]? = some ({ dst := some 25, op := Op.load 3 (Operand.tmp 24), type := 3, pos := "law.go:77", after := #[{ on := 3, ground := Ground.data }], guard := none }) := by kernel_rfl
      obtain rfl := Option.some.inj (hlit.symm.trans hoi)
      have r24 : b.tmps.getD 24 undef = (.pointer (some ⟨kr, 2, none⟩)) := rd (hT.at 3 (by kernel_rfl) (pre_of hpre 3 (by kernel_rfl)))
      refine op_go hoi (want_all rfl) fun K hK => ?_
      clear hT hpre hun hlit hoi
      go_simp
      exact hK _ _ ⟨(), fun _ _ => rfl, rfl, tc0, tc1, tc2, tc3, tc4, tc5, rc0, rc1, rc2, rc3, HB⟩
    · have hlit : (regOps Try.f12 3)[5]? = some ({ dst := some 26, op := Op.fieldAddr 48 (Operand.tmp 4) 0, type := 0, pos := "law.go:77", after := #[], guard := none }) := by kernel_rfl
      obtain rfl := Option.some.inj (hlit.symm.trans hoi)
      have r4 : b.tmps.getD 4 undef = (.pointer (some ⟨kr, 0, none⟩)) := rd ((hT.old 4 (by kernel_rfl)).trans t4)
      refine op_go hoi (want_all rfl) fun K hK => ?_
      clear hT hpre hun hlit hoi
      go_simp
      exact hK _ _ ⟨(), fun _ _ => rfl, rfl, tc0, tc1, tc2, tc3, tc4, tc5, rc0, rc1, rc2, rc3, HB⟩
    · have hlit : (regOps Try.f12 3)[6]? = some ({ dst := some 27, op := Op.load 3 (Operand.tmp 26), type := 3, pos := "law.go:77", after := #[{ on := 5, ground := Ground.data }], guard := none }) := by kernel_rfl
      obtain rfl := Option.some.inj (hlit.symm.trans hoi)
      have r26 : b.tmps.getD 26 undef = (.pointer (some ⟨kr, 0, none⟩)) := rd (hT.at 5 (by kernel_rfl) (pre_of hpre 5 (by kernel_rfl)))
      refine op_go hoi (want_all rfl) fun K hK => ?_
      clear hT hpre hun hlit hoi
      go_simp
      exact hK _ _ ⟨(), fun _ _ => rfl, rfl, tc0, tc1, tc2, tc3, tc4, tc5, rc0, rc1, rc2, rc3, HB⟩
    · have hlit : (regOps Try.f12 3)[7]? = some ({ dst := some 28, op := Op.binOp BinOp.sub 3 (Operand.tmp 25) (Operand.tmp 27) 3, type := 3, pos := "law.go:77", after := #[{ on := 4, ground := Ground.data }, { on := 6, ground := Ground.data }], guard := none }) := by kernel_rfl
      obtain rfl := Option.some.inj (hlit.symm.trans hoi)
      have r25 : b.tmps.getD 25 undef = (.int .i64 r2) := rd (hT.at 4 (by kernel_rfl) (pre_of hpre 4 (by kernel_rfl)))
      have r27 : b.tmps.getD 27 undef = (.int .i64 r0) := rd (hT.at 6 (by kernel_rfl) (pre_of hpre 6 (by kernel_rfl)))
      refine op_go hoi (want_all rfl) fun K hK => ?_
      clear hT hpre hun hlit hoi
      go_simp
      exact hK _ _ ⟨(), fun _ _ => rfl, rfl, tc0, tc1, tc2, tc3, tc4, tc5, rc0, rc1, rc2, rc3, HB⟩
    · have hlit : (regOps Try.f12 3)[8]? = some ({ dst := some 29, op := Op.call { callee := Callee.value (Operand.func 23), args := #[Operand.tmp 23, Operand.tmp 28], argTypes := #[3, 3] }, type := 3, pos := "law.go:77", after := #[{ on := 2, ground := Ground.data }, { on := 7, ground := Ground.data }], guard := none }) := by kernel_rfl
      obtain rfl := Option.some.inj (hlit.symm.trans hoi)
      have r23 : b.tmps.getD 23 undef = (.int .i64 i) := rd (hT.at 2 (by kernel_rfl) (pre_of hpre 2 (by kernel_rfl)))
      have r28 : b.tmps.getD 28 undef = (.int .i64 s) := rd (hT.at 7 (by kernel_rfl) (pre_of hpre 7 (by kernel_rfl)))
      refine op_go hoi (want_all rfl) fun K hK => ?_
      clear hT hpre hun hlit hoi
      go_simp
      go_at_call 23; refine (rd23 _).mono ?_; rintro e w2 ⟨rfl, rfl⟩
      exact hK _ _ ⟨(), fun _ _ => rfl, rfl, tc0, tc1, tc2, tc3, tc4, tc5, rc0, rc1, rc2, rc3, HB⟩
    · have hlit : (regOps Try.f12 3)[9]? = some ({ dst := some 30, op := Op.binOp BinOp.add 3 (Operand.tmp 22) (Operand.tmp 29) 3, type := 3, pos := "law.go:77", after := #[{ on := 1, ground := Ground.data }, { on := 8, ground := Ground.data }], guard := none }) := by kernel_rfl
      obtain rfl := Option.some.inj (hlit.symm.trans hoi)
      have r22 : b.tmps.getD 22 undef = (.int .i64 r0) := rd (hT.at 1 (by kernel_rfl) (pre_of hpre 1 (by kernel_rfl)))
      have r29 : b.tmps.getD 29 undef = (.int .i64 k) := rd (hT.at 8 (by kernel_rfl) (pre_of hpre 8 (by kernel_rfl)))
      refine op_go hoi (want_all rfl) fun K hK => ?_
      clear hT hpre hun hlit hoi
      go_simp
      exact hK _ _ ⟨(), fun _ _ => rfl, rfl, tc0, tc1, tc2, tc3, tc4, tc5, rc0, rc1, rc2, rc3, HB⟩
    · have hlit : (regOps Try.f12 3)[10]? = some ({ dst := some 7, op := Op.assign (Operand.tmp 30), type := 3, pos := "law.go:77", after := #[{ on := 9, ground := Ground.data }, { on := 8, ground := Ground.chain }, { on := 0, ground := Ground.phase }, { on := 1, ground := Ground.phase }, { on := 2, ground := Ground.phase }, { on := 3, ground := Ground.phase }, { on := 4, ground := Ground.phase }, { on := 5, ground := Ground.phase }, { on := 6, ground := Ground.phase }, { on := 7, ground := Ground.phase }, { on := 8, ground := Ground.phase }, { on := 9, ground := Ground.phase }], guard := none }) := by kernel_rfl
      obtain rfl := Option.some.inj (hlit.symm.trans hoi)
      have r30 : b.tmps.getD 30 undef = (.int .i64 m) := rd (hT.at 9 (by kernel_rfl) (pre_of hpre 9 (by kernel_rfl)))
      refine op_go hoi (want_all rfl) fun K hK => ?_
      clear hT hpre hun hlit hoi
      go_simp
      exact hK _ _ ⟨(), fun _ _ => rfl, rfl, tc0, tc1, tc2, tc3, tc4, tc5, rc0, rc1, rc2, rc3, HB⟩
  · intro g b w' hT hS
    rw [hT.all ht]
    have hn : (regOps Try.f12 3).size = 11 := by kernel_rfl
    rw [hn]
    exact he w' hS

end Go.Proofs.Ytandgbpbabmdfaa
