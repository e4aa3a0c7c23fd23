import Derived.Test.YtandgbpbabmdfaaT18
import Derived.Test.YtandgbpbabmdfaaRg
import Derived.Test.YtandgbpbabmdfaaMm
namespace Go.Proofs.Ytandgbpbabmdfaa
open Go.RowKit
attribute [local go_sem high] eq23 eq25 mn_two mx_two mn_three mx_three mx_four

/-- What each operation of the region leaves. -/
def region9aV (d0 d1 e0 e1 f0 f1 g0 g1 r : Int) : Nat → Value
  | 0 => .agg #[.int .i64 d0, .int .i64 d1, .int .i64 e0, .int .i64 e1, .int .i64 f0, .int .i64 f1]
  | 1 => .agg #[.int .i64 g0, .int .i64 g1, .int .i64 g0, .int .i64 g1]
  | 2 => .bool true
  | 3 => .agg #[.int .i64 d0, .int .i64 d1, .int .i64 e0, .int .i64 e1, .int .i64 f0, .int .i64 f1]
  | 4 => .agg #[.int .i64 g0, .int .i64 g1]
  | 5 => .bool true
  | 6 => .bool false
  | 7 => .bool false
  | 8 => .agg #[.int .i64 d0, .int .i64 d1, .int .i64 e0, .int .i64 e1, .int .i64 f0, .int .i64 f1]
  | 9 => .agg #[.int .i64 g0, .int .i64 g1, .int .i64 g0, .int .i64 g1]
  | 10 => .bool true
  | 11 => .bool true
  | 12 => .agg #[.int .i64 d0, .int .i64 d1, .int .i64 e0, .int .i64 e1, .int .i64 f0, .int .i64 f1]
  | 13 => .agg #[.int .i64 (mx (g0 - r) 0), .int .i64 (mx (g1 - r) 0), .int .i64 (mn (g0 + r) 16777215), .int .i64 (mn (g1 + r) 16777215)]
  | 14 => .bool true
  | 15 => .bool false
  | 16 => .bool false
  | 17 => .bool false
  | 18 => .bool false
  | 19 => .agg #[.int .i64 d0, .int .i64 d1, .int .i64 e0, .int .i64 e1, .int .i64 f0, .int .i64 f1]
  | 20 => .agg #[.int .i64 0, .int .i64 0, .int .i64 16777215, .int .i64 16777215]
  | 21 => .bool true
  | 22 => .bool false
  | 23 => .bool false
  | _ => undef

set_option maxHeartbeats 4000000 in
set_option maxRecDepth 100000 in
theorem region9a (a0 b0 c0 d0 d1 e0 e1 f0 f1 g0 g1 r : Int) (ka kb kc kp kt kn ku kl : Nat) (W : World) (m1 : ovl ⟨⟨d0, d1⟩, ⟨e0, e1⟩, ⟨f0, f1⟩⟩ g0 g1 g0 g1 = true) (m2 : has ⟨⟨d0, d1⟩, ⟨e0, e1⟩, ⟨f0, f1⟩⟩ ⟨g0, g1⟩ = true) (m3 : ovl ⟨⟨d0, d1⟩, ⟨e0, e1⟩, ⟨f0, f1⟩⟩ (mx (g0 - r) 0) (mx (g1 - r) 0) (mn (g0 + r) 16777215) (mn (g1 + r) 16777215) = true) (m4 : ovl ⟨⟨d0, d1⟩, ⟨e0, e1⟩, ⟨f0, f1⟩⟩ 0 0 16777215 16777215 = true) {id : Nat} {ops : Array Oper} {Q : Exit → Act → World → Prop} {a : Act} {w : World}
    (ho : ops = (regOps Try.f9 8)) (hsz : a.tmps.size = 114) (t11 : a.tmps[11]? = some (.pointer (some ⟨kt, 0, none⟩))) (t14 : a.tmps[14]? = some (.pointer (some ⟨kn, 0, none⟩))) (t8 : a.tmps[8]? = some (.pointer (some ⟨kp, 0, none⟩))) (t15 : a.tmps[15]? = some (.pointer (some ⟨ku, 0, none⟩))) (t16 : a.tmps[16]? = some (.pointer (some ⟨kl, 0, none⟩)))
    (h0 : w.drew.cell? ⟨ka, 0, none⟩ = some (.int .i64 a0) ∧ w.drew.cell? ⟨kb, 0, none⟩ = some (.int .i64 b0) ∧ w.drew.cell? ⟨kc, 0, none⟩ = some (.int .i64 c0) ∧ w.drew.cell? ⟨kp, 0, none⟩ = some (.int .i64 g0) ∧ w.drew.cell? ⟨kp, 1, none⟩ = some (.int .i64 g1) ∧ w.drew.cell? ⟨kt, 0, none⟩ = some (.int .i64 d0) ∧ w.drew.cell? ⟨kt, 1, none⟩ = some (.int .i64 d1) ∧ w.drew.cell? ⟨kt, 2, none⟩ = some (.int .i64 e0) ∧ w.drew.cell? ⟨kt, 3, none⟩ = some (.int .i64 e1) ∧ w.drew.cell? ⟨kt, 4, none⟩ = some (.int .i64 f0) ∧ w.drew.cell? ⟨kt, 5, none⟩ = some (.int .i64 f1) ∧ w.drew.cell? ⟨kn, 0, none⟩ = some (.int .i64 g0) ∧ w.drew.cell? ⟨kn, 1, none⟩ = some (.int .i64 g1) ∧ w.drew.cell? ⟨kn, 2, none⟩ = some (.int .i64 g0) ∧ w.drew.cell? ⟨kn, 3, none⟩ = some (.int .i64 g1) ∧ w.drew.cell? ⟨ku, 0, none⟩ = some (.int .i64 (mx (g0 - r) 0)) ∧ w.drew.cell? ⟨ku, 1, none⟩ = some (.int .i64 (mx (g1 - r) 0)) ∧ w.drew.cell? ⟨ku, 2, none⟩ = some (.int .i64 (mn (g0 + r) 16777215)) ∧ w.drew.cell? ⟨ku, 3, none⟩ = some (.int .i64 (mn (g1 + r) 16777215)) ∧ w.drew.cell? ⟨kl, 0, none⟩ = some (.int .i64 0) ∧ w.drew.cell? ⟨kl, 1, none⟩ = some (.int .i64 0) ∧ w.drew.cell? ⟨kl, 2, none⟩ = some (.int .i64 16777215) ∧ w.drew.cell? ⟨kl, 3, none⟩ = some (.int .i64 16777215) ∧ Below W.heap.size W w.drew)
    (he : ∀ w', w'.cell? ⟨ka, 0, none⟩ = some (.int .i64 a0) ∧ w'.cell? ⟨kb, 0, none⟩ = some (.int .i64 b0) ∧ w'.cell? ⟨kc, 0, none⟩ = some (.int .i64 c0) ∧ w'.cell? ⟨kp, 0, none⟩ = some (.int .i64 g0) ∧ w'.cell? ⟨kp, 1, none⟩ = some (.int .i64 g1) ∧ w'.cell? ⟨kt, 0, none⟩ = some (.int .i64 d0) ∧ w'.cell? ⟨kt, 1, none⟩ = some (.int .i64 d1) ∧ w'.cell? ⟨kt, 2, none⟩ = some (.int .i64 e0) ∧ w'.cell? ⟨kt, 3, none⟩ = some (.int .i64 e1) ∧ w'.cell? ⟨kt, 4, none⟩ = some (.int .i64 f0) ∧ w'.cell? ⟨kt, 5, none⟩ = some (.int .i64 f1) ∧ w'.cell? ⟨kn, 0, none⟩ = some (.int .i64 g0) ∧ w'.cell? ⟨kn, 1, none⟩ = some (.int .i64 g1) ∧ w'.cell? ⟨kn, 2, none⟩ = some (.int .i64 g0) ∧ w'.cell? ⟨kn, 3, none⟩ = some (.int .i64 g1) ∧ w'.cell? ⟨ku, 0, none⟩ = some (.int .i64 (mx (g0 - r) 0)) ∧ w'.cell? ⟨ku, 1, none⟩ = some (.int .i64 (mx (g1 - r) 0)) ∧ w'.cell? ⟨ku, 2, none⟩ = some (.int .i64 (mn (g0 + r) 16777215)) ∧ w'.cell? ⟨ku, 3, none⟩ = some (.int .i64 (mn (g1 + r) 16777215)) ∧ w'.cell? ⟨kl, 0, none⟩ = some (.int .i64 0) ∧ w'.cell? ⟨kl, 1, none⟩ = some (.int .i64 0) ∧ w'.cell? ⟨kl, 2, none⟩ = some (.int .i64 16777215) ∧ w'.cell? ⟨kl, 3, none⟩ = some (.int .i64 16777215) ∧ Below W.heap.size W w' → Q .normal ⟨((((((((((((((((((((((((a.tmps.setIfInBounds 66 (.agg #[.int .i64 d0, .int .i64 d1, .int .i64 e0, .int .i64 e1, .int .i64 f0, .int .i64 f1])).setIfInBounds 67 (.agg #[.int .i64 g0, .int .i64 g1, .int .i64 g0, .int .i64 g1])).setIfInBounds 68 (.bool true)).setIfInBounds 69 (.agg #[.int .i64 d0, .int .i64 d1, .int .i64 e0, .int .i64 e1, .int .i64 f0, .int .i64 f1])).setIfInBounds 70 (.agg #[.int .i64 g0, .int .i64 g1])).setIfInBounds 71 (.bool true)).setIfInBounds 72 (.bool false)).setIfInBounds 73 (.bool false)).setIfInBounds 74 (.agg #[.int .i64 d0, .int .i64 d1, .int .i64 e0, .int .i64 e1, .int .i64 f0, .int .i64 f1])).setIfInBounds 75 (.agg #[.int .i64 g0, .int .i64 g1, .int .i64 g0, .int .i64 g1])).setIfInBounds 76 (.bool true)).setIfInBounds 77 (.bool true)).setIfInBounds 78 (.agg #[.int .i64 d0, .int .i64 d1, .int .i64 e0, .int .i64 e1, .int .i64 f0, .int .i64 f1])).setIfInBounds 79 (.agg #[.int .i64 (mx (g0 - r) 0), .int .i64 (mx (g1 - r) 0), .int .i64 (mn (g0 + r) 16777215), .int .i64 (mn (g1 + r) 16777215)])).setIfInBounds 80 (.bool true)).setIfInBounds 81 (.bool false)).setIfInBounds 82 (.bool false)).setIfInBounds 83 (.bool false)).setIfInBounds 84 (.bool false)).setIfInBounds 85 (.agg #[.int .i64 d0, .int .i64 d1, .int .i64 e0, .int .i64 e1, .int .i64 f0, .int .i64 f1])).setIfInBounds 86 (.agg #[.int .i64 0, .int .i64 0, .int .i64 16777215, .int .i64 16777215])).setIfInBounds 87 (.bool true)).setIfInBounds 88 (.bool false)).setIfInBounds 89 (.bool false)), a.defers⟩ w') :
    (Code.region id ops true).wp Try.prog Q a w := by
  have ht : tidy (regOps Try.f9 8) a.tmps.size = true := by rw [hsz]; kernel_rfl
  refine region_tab (G := Unit) (fun _ => (region9aV d0 d1 e0 e1 f0 f1 g0 g1 r)) (fun _ _ w' => w'.cell? ⟨ka, 0, none⟩ = some (.int .i64 a0) ∧ w'.cell? ⟨kb, 0, none⟩ = some (.int .i64 b0) ∧ w'.cell? ⟨kc, 0, none⟩ = some (.int .i64 c0) ∧ w'.cell? ⟨kp, 0, none⟩ = some (.int .i64 g0) ∧ w'.cell? ⟨kp, 1, none⟩ = some (.int .i64 g1) ∧ w'.cell? ⟨kt, 0, none⟩ = some (.int .i64 d0) ∧ w'.cell? ⟨kt, 1, none⟩ = some (.int .i64 d1) ∧ w'.cell? ⟨kt, 2, none⟩ = some (.int .i64 e0) ∧ w'.cell? ⟨kt, 3, none⟩ = some (.int .i64 e1) ∧ w'.cell? ⟨kt, 4, none⟩ = some (.int .i64 f0) ∧ w'.cell? ⟨kt, 5, none⟩ = some (.int .i64 f1) ∧ w'.cell? ⟨kn, 0, none⟩ = some (.int .i64 g0) ∧ w'.cell? ⟨kn, 1, none⟩ = some (.int .i64 g1) ∧ w'.cell? ⟨kn, 2, none⟩ = some (.int .i64 g0) ∧ w'.cell? ⟨kn, 3, none⟩ = some (.int .i64 g1) ∧ w'.cell? ⟨ku, 0, none⟩ = some (.int .i64 (mx (g0 - r) 0)) ∧ w'.cell? ⟨ku, 1, none⟩ = some (.int .i64 (mx (g1 - r) 0)) ∧ w'.cell? ⟨ku, 2, none⟩ = some (.int .i64 (mn (g0 + r) 16777215)) ∧ w'.cell? ⟨ku, 3, none⟩ = some (.int .i64 (mn (g1 + r) 16777215)) ∧ w'.cell? ⟨kl, 0, none⟩ = some (.int .i64 0) ∧ w'.cell? ⟨kl, 1, none⟩ = some (.int .i64 0) ∧ w'.cell? ⟨kl, 2, none⟩ = some (.int .i64 16777215) ∧ w'.cell? ⟨kl, 3, none⟩ = some (.int .i64 16777215) ∧ Below W.heap.size W w') () (by kernel_rfl) ho ht h0 ?_ ?_
  · intro i o hoi g L b w' hun hpre hT hS
    clear he h0 ho hsz ht
    have hi : i < (regOps Try.f9 8).size := (Array.getElem?_eq_some_iff.1 hoi).1
    rw [show (regOps Try.f9 8).size = 24 by kernel_rfl] at hi
    obtain ⟨ac0, bc0, cc0, pc0, pc1, tc0, tc1, tc2, tc3, tc4, tc5, nc0, nc1, nc2, nc3, uc0, uc1, uc2, uc3, lc0, lc1, lc2, lc3, HB⟩ := hS
    have hcases : i = 0 ∨ i = 1 ∨ i = 2 ∨ i = 3 ∨ i = 4 ∨ i = 5 ∨ i = 6 ∨ i = 7 ∨ i = 8 ∨ i = 9 ∨ i = 10 ∨ i = 11 ∨ i = 12 ∨ i = 13 ∨ i = 14 ∨ i = 15 ∨ i = 16 ∨ i = 17 ∨ i = 18 ∨ i = 19 ∨ i = 20 ∨ i = 21 ∨ i = 22 ∨ i = 23 := by omega
    rcases hcases with rfl | rfl | rfl | rfl | rfl | rfl | rfl | rfl | rfl | rfl | rfl | rfl | rfl | rfl | rfl | rfl | rfl | rfl | rfl | rfl | rfl | rfl | rfl | rfl
    · have hlit : (regOps Try.f9 8)[0]? = some ({ dst := some 66, op := Op.load 25 (Operand.tmp 11), type := 25, pos := "law.go:32", after := #[], guard := none }) := by kernel_rfl
      obtain rfl := Option.some.inj (hlit.symm.trans hoi)
      have r11 : b.tmps.getD 11 undef = (.pointer (some ⟨kt, 0, none⟩)) := rd ((hT.old 11 (by kernel_rfl)).trans t11)
      refine op_go hoi (want_all rfl) fun K hK => ?_
      clear hT hpre hun hlit hoi
      go_simp
      exact hK _ _ ⟨(), fun _ _ => rfl, rfl, ac0, bc0, cc0, pc0, pc1, tc0, tc1, tc2, tc3, tc4, tc5, nc0, nc1, nc2, nc3, uc0, uc1, uc2, uc3, lc0, lc1, lc2, lc3, HB⟩
    · have hlit : (regOps Try.f9 8)[1]? = some ({ dst := some 67, op := Op.load 48 (Operand.tmp 14), type := 48, pos := "law.go:32", after := #[], guard := none }) := by kernel_rfl
      obtain rfl := Option.some.inj (hlit.symm.trans hoi)
      have r14 : b.tmps.getD 14 undef = (.pointer (some ⟨kn, 0, none⟩)) := rd ((hT.old 14 (by kernel_rfl)).trans t14)
      refine op_go hoi (want_all rfl) fun K hK => ?_
      clear hT hpre hun hlit hoi
      go_simp
      exact hK _ _ ⟨(), fun _ _ => rfl, rfl, ac0, bc0, cc0, pc0, pc1, tc0, tc1, tc2, tc3, tc4, tc5, nc0, nc1, nc2, nc3, uc0, uc1, uc2, uc3, lc0, lc1, lc2, lc3, HB⟩
    · have hlit : (regOps Try.f9 8)[2]? = some ({ dst := some 68, op := Op.call { callee := Callee.value (Operand.func 43), args := #[Operand.tmp 66, Operand.tmp 67], argTypes := #[25, 48] }, type := 4, pos := "law.go:32", after := #[{ on := 0, ground := Ground.data }, { on := 1, ground := Ground.data }], guard := none }) := by kernel_rfl
      obtain rfl := Option.some.inj (hlit.symm.trans hoi)
      have r66 : b.tmps.getD 66 undef = (.agg #[.int .i64 d0, .int .i64 d1, .int .i64 e0, .int .i64 e1, .int .i64 f0, .int .i64 f1]) := rd (hT.at 0 (by kernel_rfl) (pre_of hpre 0 (by kernel_rfl)))
      have r67 : b.tmps.getD 67 undef = (.agg #[.int .i64 g0, .int .i64 g1, .int .i64 g0, .int .i64 g1]) := rd (hT.at 1 (by kernel_rfl) (pre_of hpre 1 (by kernel_rfl)))
      refine op_go hoi (want_all rfl) fun K hK => ?_
      clear hT hpre hun hlit hoi
      go_simp
      go_at_call 43
      refine (ovl43 _ _ _ _ _ _ _ _ _ _ _).mono ?_; rw [m1]; rintro e w2 ⟨rfl, hb⟩; replace ac0 := ck hb (a := ⟨ka, 0, none⟩) (v := .int .i64 a0) (by go_simp); replace bc0 := ck hb (a := ⟨kb, 0, none⟩) (v := .int .i64 b0) (by go_simp); replace cc0 := ck hb (a := ⟨kc, 0, none⟩) (v := .int .i64 c0) (by go_simp); replace pc0 := ck hb (a := ⟨kp, 0, none⟩) (v := .int .i64 g0) (by go_simp); replace pc1 := ck hb (a := ⟨kp, 1, none⟩) (v := .int .i64 g1) (by go_simp); replace tc0 := ck hb (a := ⟨kt, 0, none⟩) (v := .int .i64 d0) (by go_simp); replace tc1 := ck hb (a := ⟨kt, 1, none⟩) (v := .int .i64 d1) (by go_simp); replace tc2 := ck hb (a := ⟨kt, 2, none⟩) (v := .int .i64 e0) (by go_simp); replace tc3 := ck hb (a := ⟨kt, 3, none⟩) (v := .int .i64 e1) (by go_simp); replace tc4 := ck hb (a := ⟨kt, 4, none⟩) (v := .int .i64 f0) (by go_simp); replace tc5 := ck hb (a := ⟨kt, 5, none⟩) (v := .int .i64 f1) (by go_simp); replace nc0 := ck hb (a := ⟨kn, 0, none⟩) (v := .int .i64 g0) (by go_simp); replace nc1 := ck hb (a := ⟨kn, 1, none⟩) (v := .int .i64 g1) (by go_simp); replace nc2 := ck hb (a := ⟨kn, 2, none⟩) (v := .int .i64 g0) (by go_simp); replace nc3 := ck hb (a := ⟨kn, 3, none⟩) (v := .int .i64 g1) (by go_simp); replace uc0 := ck hb (a := ⟨ku, 0, none⟩) (v := .int .i64 (mx (g0 - r) 0)) (by go_simp); replace uc1 := ck hb (a := ⟨ku, 1, none⟩) (v := .int .i64 (mx (g1 - r) 0)) (by go_simp); replace uc2 := ck hb (a := ⟨ku, 2, none⟩) (v := .int .i64 (mn (g0 + r) 16777215)) (by go_simp); replace uc3 := ck hb (a := ⟨ku, 3, none⟩) (v := .int .i64 (mn (g1 + r) 16777215)) (by go_simp); replace lc0 := ck hb (a := ⟨kl, 0, none⟩) (v := .int .i64 0) (by go_simp); replace lc1 := ck hb (a := ⟨kl, 1, none⟩) (v := .int .i64 0) (by go_simp); replace lc2 := ck hb (a := ⟨kl, 2, none⟩) (v := .int .i64 16777215) (by go_simp); replace lc3 := ck hb (a := ⟨kl, 3, none⟩) (v := .int .i64 16777215) (by go_simp); replace HB : Below W.heap.size W w2 := bt HB hb; clear hb
      exact hK _ _ ⟨(), fun _ _ => rfl, rfl, ac0, bc0, cc0, pc0, pc1, tc0, tc1, tc2, tc3, tc4, tc5, nc0, nc1, nc2, nc3, uc0, uc1, uc2, uc3, lc0, lc1, lc2, lc3, HB⟩
    · have hlit : (regOps Try.f9 8)[3]? = some ({ dst := some 69, op := Op.load 25 (Operand.tmp 11), type := 25, pos := "law.go:32", after := #[], guard := none }) := by kernel_rfl
      obtain rfl := Option.some.inj (hlit.symm.trans hoi)
      have r11 : b.tmps.getD 11 undef = (.pointer (some ⟨kt, 0, none⟩)) := rd ((hT.old 11 (by kernel_rfl)).trans t11)
      refine op_go hoi (want_all rfl) fun K hK => ?_
      clear hT hpre hun hlit hoi
      go_simp
      exact hK _ _ ⟨(), fun _ _ => rfl, rfl, ac0, bc0, cc0, pc0, pc1, tc0, tc1, tc2, tc3, tc4, tc5, nc0, nc1, nc2, nc3, uc0, uc1, uc2, uc3, lc0, lc1, lc2, lc3, HB⟩
    · have hlit : (regOps Try.f9 8)[4]? = some ({ dst := some 70, op := Op.load 23 (Operand.tmp 8), type := 23, pos := "law.go:32", after := #[], guard := none }) := by kernel_rfl
      obtain rfl := Option.some.inj (hlit.symm.trans hoi)
      have r8 : b.tmps.getD 8 undef = (.pointer (some ⟨kp, 0, none⟩)) := rd ((hT.old 8 (by kernel_rfl)).trans t8)
      refine op_go hoi (want_all rfl) fun K hK => ?_
      clear hT hpre hun hlit hoi
      go_simp
      exact hK _ _ ⟨(), fun _ _ => rfl, rfl, ac0, bc0, cc0, pc0, pc1, tc0, tc1, tc2, tc3, tc4, tc5, nc0, nc1, nc2, nc3, uc0, uc1, uc2, uc3, lc0, lc1, lc2, lc3, HB⟩
    · have hlit : (regOps Try.f9 8)[5]? = some ({ dst := some 71, op := Op.call { callee := Callee.value (Operand.func 31), args := #[Operand.tmp 69, Operand.tmp 70], argTypes := #[25, 23] }, type := 4, pos := "law.go:32", after := #[{ on := 3, ground := Ground.data }, { on := 4, ground := Ground.data }, { on := 2, ground := Ground.chain }], guard := none }) := by kernel_rfl
      obtain rfl := Option.some.inj (hlit.symm.trans hoi)
      have r69 : b.tmps.getD 69 undef = (.agg #[.int .i64 d0, .int .i64 d1, .int .i64 e0, .int .i64 e1, .int .i64 f0, .int .i64 f1]) := rd (hT.at 3 (by kernel_rfl) (pre_of hpre 3 (by kernel_rfl)))
      have r70 : b.tmps.getD 70 undef = (.agg #[.int .i64 g0, .int .i64 g1]) := rd (hT.at 4 (by kernel_rfl) (pre_of hpre 4 (by kernel_rfl)))
      refine op_go hoi (want_all rfl) fun K hK => ?_
      clear hT hpre hun hlit hoi
      go_simp
      go_at_call 31
      refine (has31 _ _ _ _ _ _ _ _ _).mono ?_; rw [m2]; rintro e w2 ⟨rfl, hb⟩; replace ac0 := ck hb (a := ⟨ka, 0, none⟩) (v := .int .i64 a0) (by go_simp); replace bc0 := ck hb (a := ⟨kb, 0, none⟩) (v := .int .i64 b0) (by go_simp); replace cc0 := ck hb (a := ⟨kc, 0, none⟩) (v := .int .i64 c0) (by go_simp); replace pc0 := ck hb (a := ⟨kp, 0, none⟩) (v := .int .i64 g0) (by go_simp); replace pc1 := ck hb (a := ⟨kp, 1, none⟩) (v := .int .i64 g1) (by go_simp); replace tc0 := ck hb (a := ⟨kt, 0, none⟩) (v := .int .i64 d0) (by go_simp); replace tc1 := ck hb (a := ⟨kt, 1, none⟩) (v := .int .i64 d1) (by go_simp); replace tc2 := ck hb (a := ⟨kt, 2, none⟩) (v := .int .i64 e0) (by go_simp); replace tc3 := ck hb (a := ⟨kt, 3, none⟩) (v := .int .i64 e1) (by go_simp); replace tc4 := ck hb (a := ⟨kt, 4, none⟩) (v := .int .i64 f0) (by go_simp); replace tc5 := ck hb (a := ⟨kt, 5, none⟩) (v := .int .i64 f1) (by go_simp); replace nc0 := ck hb (a := ⟨kn, 0, none⟩) (v := .int .i64 g0) (by go_simp); replace nc1 := ck hb (a := ⟨kn, 1, none⟩) (v := .int .i64 g1) (by go_simp); replace nc2 := ck hb (a := ⟨kn, 2, none⟩) (v := .int .i64 g0) (by go_simp); replace nc3 := ck hb (a := ⟨kn, 3, none⟩) (v := .int .i64 g1) (by go_simp); replace uc0 := ck hb (a := ⟨ku, 0, none⟩) (v := .int .i64 (mx (g0 - r) 0)) (by go_simp); replace uc1 := ck hb (a := ⟨ku, 1, none⟩) (v := .int .i64 (mx (g1 - r) 0)) (by go_simp); replace uc2 := ck hb (a := ⟨ku, 2, none⟩) (v := .int .i64 (mn (g0 + r) 16777215)) (by go_simp); replace uc3 := ck hb (a := ⟨ku, 3, none⟩) (v := .int .i64 (mn (g1 + r) 16777215)) (by go_simp); replace lc0 := ck hb (a := ⟨kl, 0, none⟩) (v := .int .i64 0) (by go_simp); replace lc1 := ck hb (a := ⟨kl, 1, none⟩) (v := .int .i64 0) (by go_simp); replace lc2 := ck hb (a := ⟨kl, 2, none⟩) (v := .int .i64 16777215) (by go_simp); replace lc3 := ck hb (a := ⟨kl, 3, none⟩) (v := .int .i64 16777215) (by go_simp); replace HB : Below W.heap.size W w2 := bt HB hb; clear hb
      exact hK _ _ ⟨(), fun _ _ => rfl, rfl, ac0, bc0, cc0, pc0, pc1, tc0, tc1, tc2, tc3, tc4, tc5, nc0, nc1, nc2, nc3, uc0, uc1, uc2, uc3, lc0, lc1, lc2, lc3, HB⟩
    · have hlit : (regOps Try.f9 8)[6]? = some ({ dst := some 72, op := Op.binOp BinOp.neq 4 (Operand.tmp 68) (Operand.tmp 71) 4, type := 4, pos := "law.go:32", after := #[{ on := 2, ground := Ground.data }, { on := 5, ground := Ground.data }], guard := none }) := by kernel_rfl
      obtain rfl := Option.some.inj (hlit.symm.trans hoi)
      have r68 : b.tmps.getD 68 undef = (.bool true) := rd (hT.at 2 (by kernel_rfl) (pre_of hpre 2 (by kernel_rfl)))
      have r71 : b.tmps.getD 71 undef = (.bool true) := rd (hT.at 5 (by kernel_rfl) (pre_of hpre 5 (by kernel_rfl)))
      refine op_go hoi (want_all rfl) fun K hK => ?_
      clear hT hpre hun hlit hoi
      go_simp
      exact hK _ _ ⟨(), fun _ _ => rfl, rfl, ac0, bc0, cc0, pc0, pc1, tc0, tc1, tc2, tc3, tc4, tc5, nc0, nc1, nc2, nc3, uc0, uc1, uc2, uc3, lc0, lc1, lc2, lc3, HB⟩
    · have hlit : (regOps Try.f9 8)[7]? = some ({ dst := some 73, op := Op.move (Operand.tmp 72), type := 4, pos := "law.go:32", after := #[{ on := 6, ground := Ground.data }, { on := 5, ground := Ground.chain }], guard := none }) := by kernel_rfl
      obtain rfl := Option.some.inj (hlit.symm.trans hoi)
      have r72 : b.tmps.getD 72 undef = (.bool false) := rd (hT.at 6 (by kernel_rfl) (pre_of hpre 6 (by kernel_rfl)))
      refine op_go hoi (want_all rfl) fun K hK => ?_
      clear hT hpre hun hlit hoi
      go_simp
      exact hK _ _ ⟨(), fun _ _ => rfl, rfl, ac0, bc0, cc0, pc0, pc1, tc0, tc1, tc2, tc3, tc4, tc5, nc0, nc1, nc2, nc3, uc0, uc1, uc2, uc3, lc0, lc1, lc2, lc3, HB⟩
    · have hlit : (regOps Try.f9 8)[8]? = some ({ dst := some 74, op := Op.load 25 (Operand.tmp 11), type := 25, pos := "law.go:32", after := #[{ on := 7, ground := Ground.guard }], guard := some (7, false) }) := by kernel_rfl
      obtain rfl := Option.some.inj (hlit.symm.trans hoi)
      have r11 : b.tmps.getD 11 undef = (.pointer (some ⟨kt, 0, none⟩)) := rd ((hT.old 11 (by kernel_rfl)).trans t11)
      refine op_go hoi (want_yes rfl (d := 73) (by kernel_rfl) (hT.at 7 (by kernel_rfl) (pre_of hpre 7 (by kernel_rfl)))) fun K hK => ?_
      clear hT hpre hun hlit hoi
      go_simp
      exact hK _ _ ⟨(), fun _ _ => rfl, rfl, ac0, bc0, cc0, pc0, pc1, tc0, tc1, tc2, tc3, tc4, tc5, nc0, nc1, nc2, nc3, uc0, uc1, uc2, uc3, lc0, lc1, lc2, lc3, HB⟩
    · have hlit : (regOps Try.f9 8)[9]? = some ({ dst := some 75, op := Op.load 48 (Operand.tmp 14), type := 48, pos := "law.go:32", after := #[{ on := 7, ground := Ground.guard }], guard := some (7, false) }) := by kernel_rfl
      obtain rfl := Option.some.inj (hlit.symm.trans hoi)
      have r14 : b.tmps.getD 14 undef = (.pointer (some ⟨kn, 0, none⟩)) := rd ((hT.old 14 (by kernel_rfl)).trans t14)
      refine op_go hoi (want_yes rfl (d := 73) (by kernel_rfl) (hT.at 7 (by kernel_rfl) (pre_of hpre 7 (by kernel_rfl)))) fun K hK => ?_
      clear hT hpre hun hlit hoi
      go_simp
      exact hK _ _ ⟨(), fun _ _ => rfl, rfl, ac0, bc0, cc0, pc0, pc1, tc0, tc1, tc2, tc3, tc4, tc5, nc0, nc1, nc2, nc3, uc0, uc1, uc2, uc3, lc0, lc1, lc2, lc3, HB⟩
    · have hlit : (regOps Try.f9 8)[10]? = some ({ dst := some 76, op := Op.call { callee := Callee.value (Operand.func 43), args := #[Operand.tmp 74, Operand.tmp 75], argTypes := #[25, 48] }, type := 4, pos := "law.go:32", after := #[{ on := 8, ground := Ground.data }, { on := 9, ground := Ground.data }, { on := 7, ground := Ground.chain }, { on := 7, ground := Ground.guard }], guard := some (7, false) }) := by kernel_rfl
      obtain rfl := Option.some.inj (hlit.symm.trans hoi)
      have r74 : b.tmps.getD 74 undef = (.agg #[.int .i64 d0, .int .i64 d1, .int .i64 e0, .int .i64 e1, .int .i64 f0, .int .i64 f1]) := rd (hT.at 8 (by kernel_rfl) (pre_of hpre 8 (by kernel_rfl)))
      have r75 : b.tmps.getD 75 undef = (.agg #[.int .i64 g0, .int .i64 g1, .int .i64 g0, .int .i64 g1]) := rd (hT.at 9 (by kernel_rfl) (pre_of hpre 9 (by kernel_rfl)))
      refine op_go hoi (want_yes rfl (d := 73) (by kernel_rfl) (hT.at 7 (by kernel_rfl) (pre_of hpre 7 (by kernel_rfl)))) fun K hK => ?_
      clear hT hpre hun hlit hoi
      go_simp
      go_at_call 43
      refine (ovl43 _ _ _ _ _ _ _ _ _ _ _).mono ?_; rw [m1]; rintro e w2 ⟨rfl, hb⟩; replace ac0 := ck hb (a := ⟨ka, 0, none⟩) (v := .int .i64 a0) (by go_simp); replace bc0 := ck hb (a := ⟨kb, 0, none⟩) (v := .int .i64 b0) (by go_simp); replace cc0 := ck hb (a := ⟨kc, 0, none⟩) (v := .int .i64 c0) (by go_simp); replace pc0 := ck hb (a := ⟨kp, 0, none⟩) (v := .int .i64 g0) (by go_simp); replace pc1 := ck hb (a := ⟨kp, 1, none⟩) (v := .int .i64 g1) (by go_simp); replace tc0 := ck hb (a := ⟨kt, 0, none⟩) (v := .int .i64 d0) (by go_simp); replace tc1 := ck hb (a := ⟨kt, 1, none⟩) (v := .int .i64 d1) (by go_simp); replace tc2 := ck hb (a := ⟨kt, 2, none⟩) (v := .int .i64 e0) (by go_simp); replace tc3 := ck hb (a := ⟨kt, 3, none⟩) (v := .int .i64 e1) (by go_simp); replace tc4 := ck hb (a := ⟨kt, 4, none⟩) (v := .int .i64 f0) (by go_simp); replace tc5 := ck hb (a := ⟨kt, 5, none⟩) (v := .int .i64 f1) (by go_simp); replace nc0 := ck hb (a := ⟨kn, 0, none⟩) (v := .int .i64 g0) (by go_simp); replace nc1 := ck hb (a := ⟨kn, 1, none⟩) (v := .int .i64 g1) (by go_simp); replace nc2 := ck hb (a := ⟨kn, 2, none⟩) (v := .int .i64 g0) (by go_simp); replace nc3 := ck hb (a := ⟨kn, 3, none⟩) (v := .int .i64 g1) (by go_simp); replace uc0 := ck hb (a := ⟨ku, 0, none⟩) (v := .int .i64 (mx (g0 - r) 0)) (by go_simp); replace uc1 := ck hb (a := ⟨ku, 1, none⟩) (v := .int .i64 (mx (g1 - r) 0)) (by go_simp); replace uc2 := ck hb (a := ⟨ku, 2, none⟩) (v := .int .i64 (mn (g0 + r) 16777215)) (by go_simp); replace uc3 := ck hb (a := ⟨ku, 3, none⟩) (v := .int .i64 (mn (g1 + r) 16777215)) (by go_simp); replace lc0 := ck hb (a := ⟨kl, 0, none⟩) (v := .int .i64 0) (by go_simp); replace lc1 := ck hb (a := ⟨kl, 1, none⟩) (v := .int .i64 0) (by go_simp); replace lc2 := ck hb (a := ⟨kl, 2, none⟩) (v := .int .i64 16777215) (by go_simp); replace lc3 := ck hb (a := ⟨kl, 3, none⟩) (v := .int .i64 16777215) (by go_simp); replace HB : Below W.heap.size W w2 := bt HB hb; clear hb
      exact hK _ _ ⟨(), fun _ _ => rfl, rfl, ac0, bc0, cc0, pc0, pc1, tc0, tc1, tc2, tc3, tc4, tc5, nc0, nc1, nc2, nc3, uc0, uc1, uc2, uc3, lc0, lc1, lc2, lc3, HB⟩
    · have hlit : (regOps Try.f9 8)[11]? = some ({ dst := some 77, op := Op.move (Operand.tmp 76), type := 4, pos := "law.go:32", after := #[{ on := 10, ground := Ground.data }, { on := 10, ground := Ground.chain }, { on := 7, ground := Ground.guard }], guard := some (7, false) }) := by kernel_rfl
      obtain rfl := Option.some.inj (hlit.symm.trans hoi)
      have r76 : b.tmps.getD 76 undef = (.bool true) := rd (hT.at 10 (by kernel_rfl) (pre_of hpre 10 (by kernel_rfl)))
      refine op_go hoi (want_yes rfl (d := 73) (by kernel_rfl) (hT.at 7 (by kernel_rfl) (pre_of hpre 7 (by kernel_rfl)))) fun K hK => ?_
      clear hT hpre hun hlit hoi
      go_simp
      exact hK _ _ ⟨(), fun _ _ => rfl, rfl, ac0, bc0, cc0, pc0, pc1, tc0, tc1, tc2, tc3, tc4, tc5, nc0, nc1, nc2, nc3, uc0, uc1, uc2, uc3, lc0, lc1, lc2, lc3, HB⟩
    · have hlit : (regOps Try.f9 8)[12]? = some ({ dst := some 78, op := Op.load 25 (Operand.tmp 11), type := 25, pos := "law.go:32", after := #[{ on := 11, ground := Ground.guard }], guard := some (11, true) }) := by kernel_rfl
      obtain rfl := Option.some.inj (hlit.symm.trans hoi)
      have r11 : b.tmps.getD 11 undef = (.pointer (some ⟨kt, 0, none⟩)) := rd ((hT.old 11 (by kernel_rfl)).trans t11)
      refine op_go hoi (want_yes rfl (d := 77) (by kernel_rfl) (hT.at 11 (by kernel_rfl) (pre_of hpre 11 (by kernel_rfl)))) fun K hK => ?_
      clear hT hpre hun hlit hoi
      go_simp
      exact hK _ _ ⟨(), fun _ _ => rfl, rfl, ac0, bc0, cc0, pc0, pc1, tc0, tc1, tc2, tc3, tc4, tc5, nc0, nc1, nc2, nc3, uc0, uc1, uc2, uc3, lc0, lc1, lc2, lc3, HB⟩
    · have hlit : (regOps Try.f9 8)[13]? = some ({ dst := some 79, op := Op.load 48 (Operand.tmp 15), type := 48, pos := "law.go:32", after := #[{ on := 11, ground := Ground.guard }], guard := some (11, true) }) := by kernel_rfl
      obtain rfl := Option.some.inj (hlit.symm.trans hoi)
      have r15 : b.tmps.getD 15 undef = (.pointer (some ⟨ku, 0, none⟩)) := rd ((hT.old 15 (by kernel_rfl)).trans t15)
      refine op_go hoi (want_yes rfl (d := 77) (by kernel_rfl) (hT.at 11 (by kernel_rfl) (pre_of hpre 11 (by kernel_rfl)))) fun K hK => ?_
      clear hT hpre hun hlit hoi
      go_simp
      exact hK _ _ ⟨(), fun _ _ => rfl, rfl, ac0, bc0, cc0, pc0, pc1, tc0, tc1, tc2, tc3, tc4, tc5, nc0, nc1, nc2, nc3, uc0, uc1, uc2, uc3, lc0, lc1, lc2, lc3, HB⟩
    · have hlit : (regOps Try.f9 8)[14]? = some ({ dst := some 80, op := Op.call { callee := Callee.value (Operand.func 43), args := #[Operand.tmp 78, Operand.tmp 79], argTypes := #[25, 48] }, type := 4, pos := "law.go:32", after := #[{ on := 12, ground := Ground.data }, { on := 13, ground := Ground.data }, { on := 11, ground := Ground.chain }, { on := 11, ground := Ground.guard }], guard := some (11, true) }) := by kernel_rfl
      obtain rfl := Option.some.inj (hlit.symm.trans hoi)
      have r78 : b.tmps.getD 78 undef = (.agg #[.int .i64 d0, .int .i64 d1, .int .i64 e0, .int .i64 e1, .int .i64 f0, .int .i64 f1]) := rd (hT.at 12 (by kernel_rfl) (pre_of hpre 12 (by kernel_rfl)))
      have r79 : b.tmps.getD 79 undef = (.agg #[.int .i64 (mx (g0 - r) 0), .int .i64 (mx (g1 - r) 0), .int .i64 (mn (g0 + r) 16777215), .int .i64 (mn (g1 + r) 16777215)]) := rd (hT.at 13 (by kernel_rfl) (pre_of hpre 13 (by kernel_rfl)))
      refine op_go hoi (want_yes rfl (d := 77) (by kernel_rfl) (hT.at 11 (by kernel_rfl) (pre_of hpre 11 (by kernel_rfl)))) fun K hK => ?_
      clear hT hpre hun hlit hoi
      go_simp
      go_at_call 43
      refine (ovl43 _ _ _ _ _ _ _ _ _ _ _).mono ?_; rw [m3]; rintro e w2 ⟨rfl, hb⟩; replace ac0 := ck hb (a := ⟨ka, 0, none⟩) (v := .int .i64 a0) (by go_simp); replace bc0 := ck hb (a := ⟨kb, 0, none⟩) (v := .int .i64 b0) (by go_simp); replace cc0 := ck hb (a := ⟨kc, 0, none⟩) (v := .int .i64 c0) (by go_simp); replace pc0 := ck hb (a := ⟨kp, 0, none⟩) (v := .int .i64 g0) (by go_simp); replace pc1 := ck hb (a := ⟨kp, 1, none⟩) (v := .int .i64 g1) (by go_simp); replace tc0 := ck hb (a := ⟨kt, 0, none⟩) (v := .int .i64 d0) (by go_simp); replace tc1 := ck hb (a := ⟨kt, 1, none⟩) (v := .int .i64 d1) (by go_simp); replace tc2 := ck hb (a := ⟨kt, 2, none⟩) (v := .int .i64 e0) (by go_simp); replace tc3 := ck hb (a := ⟨kt, 3, none⟩) (v := .int .i64 e1) (by go_simp); replace tc4 := ck hb (a := ⟨kt, 4, none⟩) (v := .int .i64 f0) (by go_simp); replace tc5 := ck hb (a := ⟨kt, 5, none⟩) (v := .int .i64 f1) (by go_simp); replace nc0 := ck hb (a := ⟨kn, 0, none⟩) (v := .int .i64 g0) (by go_simp); replace nc1 := ck hb (a := ⟨kn, 1, none⟩) (v := .int .i64 g1) (by go_simp); replace nc2 := ck hb (a := ⟨kn, 2, none⟩) (v := .int .i64 g0) (by go_simp); replace nc3 := ck hb (a := ⟨kn, 3, none⟩) (v := .int .i64 g1) (by go_simp); replace uc0 := ck hb (a := ⟨ku, 0, none⟩) (v := .int .i64 (mx (g0 - r) 0)) (by go_simp); replace uc1 := ck hb (a := ⟨ku, 1, none⟩) (v := .int .i64 (mx (g1 - r) 0)) (by go_simp); replace uc2 := ck hb (a := ⟨ku, 2, none⟩) (v := .int .i64 (mn (g0 + r) 16777215)) (by go_simp); replace uc3 := ck hb (a := ⟨ku, 3, none⟩) (v := .int .i64 (mn (g1 + r) 16777215)) (by go_simp); replace lc0 := ck hb (a := ⟨kl, 0, none⟩) (v := .int .i64 0) (by go_simp); replace lc1 := ck hb (a := ⟨kl, 1, none⟩) (v := .int .i64 0) (by go_simp); replace lc2 := ck hb (a := ⟨kl, 2, none⟩) (v := .int .i64 16777215) (by go_simp); replace lc3 := ck hb (a := ⟨kl, 3, none⟩) (v := .int .i64 16777215) (by go_simp); replace HB : Below W.heap.size W w2 := bt HB hb; clear hb
      exact hK _ _ ⟨(), fun _ _ => rfl, rfl, ac0, bc0, cc0, pc0, pc1, tc0, tc1, tc2, tc3, tc4, tc5, nc0, nc1, nc2, nc3, uc0, uc1, uc2, uc3, lc0, lc1, lc2, lc3, HB⟩
    · have hlit : (regOps Try.f9 8)[15]? = some ({ dst := some 81, op := Op.unOp UnOp.not 4 (Operand.tmp 80), type := 4, pos := "law.go:32", after := #[{ on := 14, ground := Ground.data }, { on := 11, ground := Ground.guard }], guard := some (11, true) }) := by kernel_rfl
      obtain rfl := Option.some.inj (hlit.symm.trans hoi)
      have r80 : b.tmps.getD 80 undef = (.bool true) := rd (hT.at 14 (by kernel_rfl) (pre_of hpre 14 (by kernel_rfl)))
      refine op_go hoi (want_yes rfl (d := 77) (by kernel_rfl) (hT.at 11 (by kernel_rfl) (pre_of hpre 11 (by kernel_rfl)))) fun K hK => ?_
      clear hT hpre hun hlit hoi
      go_simp
      exact hK _ _ ⟨(), fun _ _ => rfl, rfl, ac0, bc0, cc0, pc0, pc1, tc0, tc1, tc2, tc3, tc4, tc5, nc0, nc1, nc2, nc3, uc0, uc1, uc2, uc3, lc0, lc1, lc2, lc3, HB⟩
    · have hlit : (regOps Try.f9 8)[16]? = some ({ dst := some 82, op := Op.pick (Operand.tmp 77) (Operand.tmp 81) (Operand.const (Value.bool false)), type := 4, pos := "law.go:32", after := #[{ on := 11, ground := Ground.data }, { on := 15, ground := Ground.data }, { on := 7, ground := Ground.guard }], guard := some (7, false) }) := by kernel_rfl
      obtain rfl := Option.some.inj (hlit.symm.trans hoi)
      have r77 : b.tmps.getD 77 undef = (.bool true) := rd (hT.at 11 (by kernel_rfl) (pre_of hpre 11 (by kernel_rfl)))
      have r81 : b.tmps.getD 81 undef = (.bool false) := rd (hT.at 15 (by kernel_rfl) (pre_of hpre 15 (by kernel_rfl)))
      refine op_go hoi (want_yes rfl (d := 73) (by kernel_rfl) (hT.at 7 (by kernel_rfl) (pre_of hpre 7 (by kernel_rfl)))) fun K hK => ?_
      clear hT hpre hun hlit hoi
      go_simp
      exact hK _ _ ⟨(), fun _ _ => rfl, rfl, ac0, bc0, cc0, pc0, pc1, tc0, tc1, tc2, tc3, tc4, tc5, nc0, nc1, nc2, nc3, uc0, uc1, uc2, uc3, lc0, lc1, lc2, lc3, HB⟩
    · have hlit : (regOps Try.f9 8)[17]? = some ({ dst := some 83, op := Op.pick (Operand.tmp 73) (Operand.const (Value.bool true)) (Operand.tmp 82), type := 4, pos := "law.go:32", after := #[{ on := 7, ground := Ground.data }, { on := 16, ground := Ground.data }], guard := none }) := by kernel_rfl
      obtain rfl := Option.some.inj (hlit.symm.trans hoi)
      have r73 : b.tmps.getD 73 undef = (.bool false) := rd (hT.at 7 (by kernel_rfl) (pre_of hpre 7 (by kernel_rfl)))
      have r82 : b.tmps.getD 82 undef = (.bool false) := rd (hT.at 16 (by kernel_rfl) (pre_of hpre 16 (by kernel_rfl)))
      refine op_go hoi (want_all rfl) fun K hK => ?_
      clear hT hpre hun hlit hoi
      go_simp
      exact hK _ _ ⟨(), fun _ _ => rfl, rfl, ac0, bc0, cc0, pc0, pc1, tc0, tc1, tc2, tc3, tc4, tc5, nc0, nc1, nc2, nc3, uc0, uc1, uc2, uc3, lc0, lc1, lc2, lc3, HB⟩
    · have hlit : (regOps Try.f9 8)[18]? = some ({ dst := some 84, op := Op.move (Operand.tmp 83), type := 4, pos := "law.go:32", after := #[{ on := 17, ground := Ground.data }, { on := 14, ground := Ground.chain }], guard := none }) := by kernel_rfl
      obtain rfl := Option.some.inj (hlit.symm.trans hoi)
      have r83 : b.tmps.getD 83 undef = (.bool false) := rd (hT.at 17 (by kernel_rfl) (pre_of hpre 17 (by kernel_rfl)))
      refine op_go hoi (want_all rfl) fun K hK => ?_
      clear hT hpre hun hlit hoi
      go_simp
      exact hK _ _ ⟨(), fun _ _ => rfl, rfl, ac0, bc0, cc0, pc0, pc1, tc0, tc1, tc2, tc3, tc4, tc5, nc0, nc1, nc2, nc3, uc0, uc1, uc2, uc3, lc0, lc1, lc2, lc3, HB⟩
    · have hlit : (regOps Try.f9 8)[19]? = some ({ dst := some 85, op := Op.load 25 (Operand.tmp 11), type := 25, pos := "law.go:32", after := #[{ on := 18, ground := Ground.guard }], guard := some (18, false) }) := by kernel_rfl
      obtain rfl := Option.some.inj (hlit.symm.trans hoi)
      have r11 : b.tmps.getD 11 undef = (.pointer (some ⟨kt, 0, none⟩)) := rd ((hT.old 11 (by kernel_rfl)).trans t11)
      refine op_go hoi (want_yes rfl (d := 84) (by kernel_rfl) (hT.at 18 (by kernel_rfl) (pre_of hpre 18 (by kernel_rfl)))) fun K hK => ?_
      clear hT hpre hun hlit hoi
      go_simp
      exact hK _ _ ⟨(), fun _ _ => rfl, rfl, ac0, bc0, cc0, pc0, pc1, tc0, tc1, tc2, tc3, tc4, tc5, nc0, nc1, nc2, nc3, uc0, uc1, uc2, uc3, lc0, lc1, lc2, lc3, HB⟩
    · have hlit : (regOps Try.f9 8)[20]? = some ({ dst := some 86, op := Op.load 48 (Operand.tmp 16), type := 48, pos := "law.go:32", after := #[{ on := 18, ground := Ground.guard }], guard := some (18, false) }) := by kernel_rfl
      obtain rfl := Option.some.inj (hlit.symm.trans hoi)
      have r16 : b.tmps.getD 16 undef = (.pointer (some ⟨kl, 0, none⟩)) := rd ((hT.old 16 (by kernel_rfl)).trans t16)
      refine op_go hoi (want_yes rfl (d := 84) (by kernel_rfl) (hT.at 18 (by kernel_rfl) (pre_of hpre 18 (by kernel_rfl)))) fun K hK => ?_
      clear hT hpre hun hlit hoi
      go_simp
      exact hK _ _ ⟨(), fun _ _ => rfl, rfl, ac0, bc0, cc0, pc0, pc1, tc0, tc1, tc2, tc3, tc4, tc5, nc0, nc1, nc2, nc3, uc0, uc1, uc2, uc3, lc0, lc1, lc2, lc3, HB⟩
    · have hlit : (regOps Try.f9 8)[21]? = some ({ dst := some 87, op := Op.call { callee := Callee.value (Operand.func 43), args := #[Operand.tmp 85, Operand.tmp 86], argTypes := #[25, 48] }, type := 4, pos := "law.go:32", after := #[{ on := 19, ground := Ground.data }, { on := 20, ground := Ground.data }, { on := 18, ground := Ground.chain }, { on := 18, ground := Ground.guard }], guard := some (18, false) }) := by kernel_rfl
      obtain rfl := Option.some.inj (hlit.symm.trans hoi)
      have r85 : b.tmps.getD 85 undef = (.agg #[.int .i64 d0, .int .i64 d1, .int .i64 e0, .int .i64 e1, .int .i64 f0, .int .i64 f1]) := rd (hT.at 19 (by kernel_rfl) (pre_of hpre 19 (by kernel_rfl)))
      have r86 : b.tmps.getD 86 undef = (.agg #[.int .i64 0, .int .i64 0, .int .i64 16777215, .int .i64 16777215]) := rd (hT.at 20 (by kernel_rfl) (pre_of hpre 20 (by kernel_rfl)))
      refine op_go hoi (want_yes rfl (d := 84) (by kernel_rfl) (hT.at 18 (by kernel_rfl) (pre_of hpre 18 (by kernel_rfl)))) fun K hK => ?_
      clear hT hpre hun hlit hoi
      go_simp
      go_at_call 43
      refine (ovl43 _ _ _ _ _ _ _ _ _ _ _).mono ?_; rw [m4]; rintro e w2 ⟨rfl, hb⟩; replace ac0 := ck hb (a := ⟨ka, 0, none⟩) (v := .int .i64 a0) (by go_simp); replace bc0 := ck hb (a := ⟨kb, 0, none⟩) (v := .int .i64 b0) (by go_simp); replace cc0 := ck hb (a := ⟨kc, 0, none⟩) (v := .int .i64 c0) (by go_simp); replace pc0 := ck hb (a := ⟨kp, 0, none⟩) (v := .int .i64 g0) (by go_simp); replace pc1 := ck hb (a := ⟨kp, 1, none⟩) (v := .int .i64 g1) (by go_simp); replace tc0 := ck hb (a := ⟨kt, 0, none⟩) (v := .int .i64 d0) (by go_simp); replace tc1 := ck hb (a := ⟨kt, 1, none⟩) (v := .int .i64 d1) (by go_simp); replace tc2 := ck hb (a := ⟨kt, 2, none⟩) (v := .int .i64 e0) (by go_simp); replace tc3 := ck hb (a := ⟨kt, 3, none⟩) (v := .int .i64 e1) (by go_simp); replace tc4 := ck hb (a := ⟨kt, 4, none⟩) (v := .int .i64 f0) (by go_simp); replace tc5 := ck hb (a := ⟨kt, 5, none⟩) (v := .int .i64 f1) (by go_simp); replace nc0 := ck hb (a := ⟨kn, 0, none⟩) (v := .int .i64 g0) (by go_simp); replace nc1 := ck hb (a := ⟨kn, 1, none⟩) (v := .int .i64 g1) (by go_simp); replace nc2 := ck hb (a := ⟨kn, 2, none⟩) (v := .int .i64 g0) (by go_simp); replace nc3 := ck hb (a := ⟨kn, 3, none⟩) (v := .int .i64 g1) (by go_simp); replace uc0 := ck hb (a := ⟨ku, 0, none⟩) (v := .int .i64 (mx (g0 - r) 0)) (by go_simp); replace uc1 := ck hb (a := ⟨ku, 1, none⟩) (v := .int .i64 (mx (g1 - r) 0)) (by go_simp); replace uc2 := ck hb (a := ⟨ku, 2, none⟩) (v := .int .i64 (mn (g0 + r) 16777215)) (by go_simp); replace uc3 := ck hb (a := ⟨ku, 3, none⟩) (v := .int .i64 (mn (g1 + r) 16777215)) (by go_simp); replace lc0 := ck hb (a := ⟨kl, 0, none⟩) (v := .int .i64 0) (by go_simp); replace lc1 := ck hb (a := ⟨kl, 1, none⟩) (v := .int .i64 0) (by go_simp); replace lc2 := ck hb (a := ⟨kl, 2, none⟩) (v := .int .i64 16777215) (by go_simp); replace lc3 := ck hb (a := ⟨kl, 3, none⟩) (v := .int .i64 16777215) (by go_simp); replace HB : Below W.heap.size W w2 := bt HB hb; clear hb
      exact hK _ _ ⟨(), fun _ _ => rfl, rfl, ac0, bc0, cc0, pc0, pc1, tc0, tc1, tc2, tc3, tc4, tc5, nc0, nc1, nc2, nc3, uc0, uc1, uc2, uc3, lc0, lc1, lc2, lc3, HB⟩
    · have hlit : (regOps Try.f9 8)[22]? = some ({ dst := some 88, op := Op.unOp UnOp.not 4 (Operand.tmp 87), type := 4, pos := "law.go:32", after := #[{ on := 21, ground := Ground.data }, { on := 18, ground := Ground.guard }], guard := some (18, false) }) := by kernel_rfl
      obtain rfl := Option.some.inj (hlit.symm.trans hoi)
      have r87 : b.tmps.getD 87 undef = (.bool true) := rd (hT.at 21 (by kernel_rfl) (pre_of hpre 21 (by kernel_rfl)))
      refine op_go hoi (want_yes rfl (d := 84) (by kernel_rfl) (hT.at 18 (by kernel_rfl) (pre_of hpre 18 (by kernel_rfl)))) fun K hK => ?_
      clear hT hpre hun hlit hoi
      go_simp
      exact hK _ _ ⟨(), fun _ _ => rfl, rfl, ac0, bc0, cc0, pc0, pc1, tc0, tc1, tc2, tc3, tc4, tc5, nc0, nc1, nc2, nc3, uc0, uc1, uc2, uc3, lc0, lc1, lc2, lc3, HB⟩
    · have hlit : (regOps Try.f9 8)[23]? = some ({ dst := some 89, op := Op.pick (Operand.tmp 84) (Operand.const (Value.bool true)) (Operand.tmp 88), type := 4, pos := "law.go:32", after := #[{ on := 18, ground := Ground.data }, { on := 22, ground := Ground.data }], guard := none }) := by kernel_rfl
      obtain rfl := Option.some.inj (hlit.symm.trans hoi)
      have r84 : b.tmps.getD 84 undef = (.bool false) := rd (hT.at 18 (by kernel_rfl) (pre_of hpre 18 (by kernel_rfl)))
      have r88 : b.tmps.getD 88 undef = (.bool false) := rd (hT.at 22 (by kernel_rfl) (pre_of hpre 22 (by kernel_rfl)))
      refine op_go hoi (want_all rfl) fun K hK => ?_
      clear hT hpre hun hlit hoi
      go_simp
      exact hK _ _ ⟨(), fun _ _ => rfl, rfl, ac0, bc0, cc0, pc0, pc1, tc0, tc1, tc2, tc3, tc4, tc5, nc0, nc1, nc2, nc3, uc0, uc1, uc2, uc3, lc0, lc1, lc2, lc3, HB⟩
  · intro g b w' hT hS
    rw [hT.all ht]
    have hn : (regOps Try.f9 8).size = 24 := by kernel_rfl
    rw [hn]
    exact he w' hS

/-- What each operation of the region leaves. -/
def region9bV (d0 d1 e0 e1 f0 f1 g0 g1 : Int) : Nat → Value
  | 0 => .agg #[.int .i64 d0, .int .i64 d1, .int .i64 e0, .int .i64 e1, .int .i64 f0, .int .i64 f1]
  | 1 => .agg #[.int .i64 g0, .int .i64 g1, .int .i64 g0, .int .i64 g1]
  | 2 => .bool false
  | 3 => .agg #[.int .i64 d0, .int .i64 d1, .int .i64 e0, .int .i64 e1, .int .i64 f0, .int .i64 f1]
  | 4 => .agg #[.int .i64 g0, .int .i64 g1]
  | 5 => .bool false
  | 6 => .bool false
  | 7 => .bool false
  | 8 => .agg #[.int .i64 d0, .int .i64 d1, .int .i64 e0, .int .i64 e1, .int .i64 f0, .int .i64 f1]
  | 9 => .agg #[.int .i64 g0, .int .i64 g1, .int .i64 g0, .int .i64 g1]
  | 10 => .bool false
  | 11 => .bool false
  | 12 => undef
  | 13 => undef
  | 14 => undef
  | 15 => undef
  | 16 => .bool false
  | 17 => .bool false
  | 18 => .bool false
  | 19 => .agg #[.int .i64 d0, .int .i64 d1, .int .i64 e0, .int .i64 e1, .int .i64 f0, .int .i64 f1]
  | 20 => .agg #[.int .i64 0, .int .i64 0, .int .i64 16777215, .int .i64 16777215]
  | 21 => .bool true
  | 22 => .bool false
  | 23 => .bool false
  | _ => undef

set_option maxHeartbeats 4000000 in
set_option maxRecDepth 100000 in
theorem region9b (a0 b0 c0 d0 d1 e0 e1 f0 f1 g0 g1 : Int) (ka kb kc kp kt kn kl : Nat) (W : World) (m1 : ovl ⟨⟨d0, d1⟩, ⟨e0, e1⟩, ⟨f0, f1⟩⟩ g0 g1 g0 g1 = false) (m2 : has ⟨⟨d0, d1⟩, ⟨e0, e1⟩, ⟨f0, f1⟩⟩ ⟨g0, g1⟩ = false) (m4 : ovl ⟨⟨d0, d1⟩, ⟨e0, e1⟩, ⟨f0, f1⟩⟩ 0 0 16777215 16777215 = true) {id : Nat} {ops : Array Oper} {Q : Exit → Act → World → Prop} {a : Act} {w : World}
    (ho : ops = (regOps Try.f9 8)) (hsz : a.tmps.size = 114) (t11 : a.tmps[11]? = some (.pointer (some ⟨kt, 0, none⟩))) (t14 : a.tmps[14]? = some (.pointer (some ⟨kn, 0, none⟩))) (t8 : a.tmps[8]? = some (.pointer (some ⟨kp, 0, none⟩))) (t16 : a.tmps[16]? = some (.pointer (some ⟨kl, 0, none⟩)))
    (h0 : w.drew.cell? ⟨ka, 0, none⟩ = some (.int .i64 a0) ∧ w.drew.cell? ⟨kb, 0, none⟩ = some (.int .i64 b0) ∧ w.drew.cell? ⟨kc, 0, none⟩ = some (.int .i64 c0) ∧ w.drew.cell? ⟨kp, 0, none⟩ = some (.int .i64 g0) ∧ w.drew.cell? ⟨kp, 1, none⟩ = some (.int .i64 g1) ∧ w.drew.cell? ⟨kt, 0, none⟩ = some (.int .i64 d0) ∧ w.drew.cell? ⟨kt, 1, none⟩ = some (.int .i64 d1) ∧ w.drew.cell? ⟨kt, 2, none⟩ = some (.int .i64 e0) ∧ w.drew.cell? ⟨kt, 3, none⟩ = some (.int .i64 e1) ∧ w.drew.cell? ⟨kt, 4, none⟩ = some (.int .i64 f0) ∧ w.drew.cell? ⟨kt, 5, none⟩ = some (.int .i64 f1) ∧ w.drew.cell? ⟨kn, 0, none⟩ = some (.int .i64 g0) ∧ w.drew.cell? ⟨kn, 1, none⟩ = some (.int .i64 g1) ∧ w.drew.cell? ⟨kn, 2, none⟩ = some (.int .i64 g0) ∧ w.drew.cell? ⟨kn, 3, none⟩ = some (.int .i64 g1) ∧ w.drew.cell? ⟨kl, 0, none⟩ = some (.int .i64 0) ∧ w.drew.cell? ⟨kl, 1, none⟩ = some (.int .i64 0) ∧ w.drew.cell? ⟨kl, 2, none⟩ = some (.int .i64 16777215) ∧ w.drew.cell? ⟨kl, 3, none⟩ = some (.int .i64 16777215) ∧ Below W.heap.size W w.drew)
    (he : ∀ w', w'.cell? ⟨ka, 0, none⟩ = some (.int .i64 a0) ∧ w'.cell? ⟨kb, 0, none⟩ = some (.int .i64 b0) ∧ w'.cell? ⟨kc, 0, none⟩ = some (.int .i64 c0) ∧ w'.cell? ⟨kp, 0, none⟩ = some (.int .i64 g0) ∧ w'.cell? ⟨kp, 1, none⟩ = some (.int .i64 g1) ∧ w'.cell? ⟨kt, 0, none⟩ = some (.int .i64 d0) ∧ w'.cell? ⟨kt, 1, none⟩ = some (.int .i64 d1) ∧ w'.cell? ⟨kt, 2, none⟩ = some (.int .i64 e0) ∧ w'.cell? ⟨kt, 3, none⟩ = some (.int .i64 e1) ∧ w'.cell? ⟨kt, 4, none⟩ = some (.int .i64 f0) ∧ w'.cell? ⟨kt, 5, none⟩ = some (.int .i64 f1) ∧ w'.cell? ⟨kn, 0, none⟩ = some (.int .i64 g0) ∧ w'.cell? ⟨kn, 1, none⟩ = some (.int .i64 g1) ∧ w'.cell? ⟨kn, 2, none⟩ = some (.int .i64 g0) ∧ w'.cell? ⟨kn, 3, none⟩ = some (.int .i64 g1) ∧ w'.cell? ⟨kl, 0, none⟩ = some (.int .i64 0) ∧ w'.cell? ⟨kl, 1, none⟩ = some (.int .i64 0) ∧ w'.cell? ⟨kl, 2, none⟩ = some (.int .i64 16777215) ∧ w'.cell? ⟨kl, 3, none⟩ = some (.int .i64 16777215) ∧ Below W.heap.size W w' → Q .normal ⟨((((((((((((((((((((((((a.tmps.setIfInBounds 66 (.agg #[.int .i64 d0, .int .i64 d1, .int .i64 e0, .int .i64 e1, .int .i64 f0, .int .i64 f1])).setIfInBounds 67 (.agg #[.int .i64 g0, .int .i64 g1, .int .i64 g0, .int .i64 g1])).setIfInBounds 68 (.bool false)).setIfInBounds 69 (.agg #[.int .i64 d0, .int .i64 d1, .int .i64 e0, .int .i64 e1, .int .i64 f0, .int .i64 f1])).setIfInBounds 70 (.agg #[.int .i64 g0, .int .i64 g1])).setIfInBounds 71 (.bool false)).setIfInBounds 72 (.bool false)).setIfInBounds 73 (.bool false)).setIfInBounds 74 (.agg #[.int .i64 d0, .int .i64 d1, .int .i64 e0, .int .i64 e1, .int .i64 f0, .int .i64 f1])).setIfInBounds 75 (.agg #[.int .i64 g0, .int .i64 g1, .int .i64 g0, .int .i64 g1])).setIfInBounds 76 (.bool false)).setIfInBounds 77 (.bool false)).setIfInBounds 78 (undef)).setIfInBounds 79 (undef)).setIfInBounds 80 (undef)).setIfInBounds 81 (undef)).setIfInBounds 82 (.bool false)).setIfInBounds 83 (.bool false)).setIfInBounds 84 (.bool false)).setIfInBounds 85 (.agg #[.int .i64 d0, .int .i64 d1, .int .i64 e0, .int .i64 e1, .int .i64 f0, .int .i64 f1])).setIfInBounds 86 (.agg #[.int .i64 0, .int .i64 0, .int .i64 16777215, .int .i64 16777215])).setIfInBounds 87 (.bool true)).setIfInBounds 88 (.bool false)).setIfInBounds 89 (.bool false)), a.defers⟩ w') :
    (Code.region id ops true).wp Try.prog Q a w := by
  have ht : tidy (regOps Try.f9 8) a.tmps.size = true := by rw [hsz]; kernel_rfl
  refine region_tab (G := Unit) (fun _ => (region9bV d0 d1 e0 e1 f0 f1 g0 g1)) (fun _ _ w' => w'.cell? ⟨ka, 0, none⟩ = some (.int .i64 a0) ∧ w'.cell? ⟨kb, 0, none⟩ = some (.int .i64 b0) ∧ w'.cell? ⟨kc, 0, none⟩ = some (.int .i64 c0) ∧ w'.cell? ⟨kp, 0, none⟩ = some (.int .i64 g0) ∧ w'.cell? ⟨kp, 1, none⟩ = some (.int .i64 g1) ∧ w'.cell? ⟨kt, 0, none⟩ = some (.int .i64 d0) ∧ w'.cell? ⟨kt, 1, none⟩ = some (.int .i64 d1) ∧ w'.cell? ⟨kt, 2, none⟩ = some (.int .i64 e0) ∧ w'.cell? ⟨kt, 3, none⟩ = some (.int .i64 e1) ∧ w'.cell? ⟨kt, 4, none⟩ = some (.int .i64 f0) ∧ w'.cell? ⟨kt, 5, none⟩ = some (.int .i64 f1) ∧ w'.cell? ⟨kn, 0, none⟩ = some (.int .i64 g0) ∧ w'.cell? ⟨kn, 1, none⟩ = some (.int .i64 g1) ∧ w'.cell? ⟨kn, 2, none⟩ = some (.int .i64 g0) ∧ w'.cell? ⟨kn, 3, none⟩ = some (.int .i64 g1) ∧ w'.cell? ⟨kl, 0, none⟩ = some (.int .i64 0) ∧ w'.cell? ⟨kl, 1, none⟩ = some (.int .i64 0) ∧ w'.cell? ⟨kl, 2, none⟩ = some (.int .i64 16777215) ∧ w'.cell? ⟨kl, 3, none⟩ = some (.int .i64 16777215) ∧ Below W.heap.size W w') () (by kernel_rfl) ho ht h0 ?_ ?_
  · intro i o hoi g L b w' hun hpre hT hS
    clear he h0 ho hsz ht
    have hi : i < (regOps Try.f9 8).size := (Array.getElem?_eq_some_iff.1 hoi).1
    rw [show (regOps Try.f9 8).size = 24 by kernel_rfl] at hi
    obtain ⟨ac0, bc0, cc0, pc0, pc1, tc0, tc1, tc2, tc3, tc4, tc5, nc0, nc1, nc2, nc3, lc0, lc1, lc2, lc3, HB⟩ := hS
    have hcases : i = 0 ∨ i = 1 ∨ i = 2 ∨ i = 3 ∨ i = 4 ∨ i = 5 ∨ i = 6 ∨ i = 7 ∨ i = 8 ∨ i = 9 ∨ i = 10 ∨ i = 11 ∨ i = 12 ∨ i = 13 ∨ i = 14 ∨ i = 15 ∨ i = 16 ∨ i = 17 ∨ i = 18 ∨ i = 19 ∨ i = 20 ∨ i = 21 ∨ i = 22 ∨ i = 23 := by omega
    rcases hcases with rfl | rfl | rfl | rfl | rfl | rfl | rfl | rfl | rfl | rfl | rfl | rfl | rfl | rfl | rfl | rfl | rfl | rfl | rfl | rfl | rfl | rfl | rfl | rfl
    · have hlit : (regOps Try.f9 8)[0]? = some ({ dst := some 66, op := Op.load 25 (Operand.tmp 11), type := 25, pos := "law.go:32", after := #[], guard := none }) := by kernel_rfl
      obtain rfl := Option.some.inj (hlit.symm.trans hoi)
      have r11 : b.tmps.getD 11 undef = (.pointer (some ⟨kt, 0, none⟩)) := rd ((hT.old 11 (by kernel_rfl)).trans t11)
      refine op_go hoi (want_all rfl) fun K hK => ?_
      clear hT hpre hun hlit hoi
      go_simp
      exact hK _ _ ⟨(), fun _ _ => rfl, rfl, ac0, bc0, cc0, pc0, pc1, tc0, tc1, tc2, tc3, tc4, tc5, nc0, nc1, nc2, nc3, lc0, lc1, lc2, lc3, HB⟩
    · have hlit : (regOps Try.f9 8)[1]? = some ({ dst := some 67, op := Op.load 48 (Operand.tmp 14), type := 48, pos := "law.go:32", after := #[], guard := none }) := by kernel_rfl
      obtain rfl := Option.some.inj (hlit.symm.trans hoi)
      have r14 : b.tmps.getD 14 undef = (.pointer (some ⟨kn, 0, none⟩)) := rd ((hT.old 14 (by kernel_rfl)).trans t14)
      refine op_go hoi (want_all rfl) fun K hK => ?_
      clear hT hpre hun hlit hoi
      go_simp
      exact hK _ _ ⟨(), fun _ _ => rfl, rfl, ac0, bc0, cc0, pc0, pc1, tc0, tc1, tc2, tc3, tc4, tc5, nc0, nc1, nc2, nc3, lc0, lc1, lc2, lc3, HB⟩
    · have hlit : (regOps Try.f9 8)[2]? = some ({ dst := some 68, op := Op.call { callee := Callee.value (Operand.func 43), args := #[Operand.tmp 66, Operand.tmp 67], argTypes := #[25, 48] }, type := 4, pos := "law.go:32", after := #[{ on := 0, ground := Ground.data }, { on := 1, ground := Ground.data }], guard := none }) := by kernel_rfl
      obtain rfl := Option.some.inj (hlit.symm.trans hoi)
      have r66 : b.tmps.getD 66 undef = (.agg #[.int .i64 d0, .int .i64 d1, .int .i64 e0, .int .i64 e1, .int .i64 f0, .int .i64 f1]) := rd (hT.at 0 (by kernel_rfl) (pre_of hpre 0 (by kernel_rfl)))
      have r67 : b.tmps.getD 67 undef = (.agg #[.int .i64 g0, .int .i64 g1, .int .i64 g0, .int .i64 g1]) := rd (hT.at 1 (by kernel_rfl) (pre_of hpre 1 (by kernel_rfl)))
      refine op_go hoi (want_all rfl) fun K hK => ?_
      clear hT hpre hun hlit hoi
      go_simp
      go_at_call 43
      refine (ovl43 _ _ _ _ _ _ _ _ _ _ _).mono ?_; rw [m1]; rintro e w2 ⟨rfl, hb⟩; replace ac0 := ck hb (a := ⟨ka, 0, none⟩) (v := .int .i64 a0) (by go_simp); replace bc0 := ck hb (a := ⟨kb, 0, none⟩) (v := .int .i64 b0) (by go_simp); replace cc0 := ck hb (a := ⟨kc, 0, none⟩) (v := .int .i64 c0) (by go_simp); replace pc0 := ck hb (a := ⟨kp, 0, none⟩) (v := .int .i64 g0) (by go_simp); replace pc1 := ck hb (a := ⟨kp, 1, none⟩) (v := .int .i64 g1) (by go_simp); replace tc0 := ck hb (a := ⟨kt, 0, none⟩) (v := .int .i64 d0) (by go_simp); replace tc1 := ck hb (a := ⟨kt, 1, none⟩) (v := .int .i64 d1) (by go_simp); replace tc2 := ck hb (a := ⟨kt, 2, none⟩) (v := .int .i64 e0) (by go_simp); replace tc3 := ck hb (a := ⟨kt, 3, none⟩) (v := .int .i64 e1) (by go_simp); replace tc4 := ck hb (a := ⟨kt, 4, none⟩) (v := .int .i64 f0) (by go_simp); replace tc5 := ck hb (a := ⟨kt, 5, none⟩) (v := .int .i64 f1) (by go_simp); replace nc0 := ck hb (a := ⟨kn, 0, none⟩) (v := .int .i64 g0) (by go_simp); replace nc1 := ck hb (a := ⟨kn, 1, none⟩) (v := .int .i64 g1) (by go_simp); replace nc2 := ck hb (a := ⟨kn, 2, none⟩) (v := .int .i64 g0) (by go_simp); replace nc3 := ck hb (a := ⟨kn, 3, none⟩) (v := .int .i64 g1) (by go_simp); replace lc0 := ck hb (a := ⟨kl, 0, none⟩) (v := .int .i64 0) (by go_simp); replace lc1 := ck hb (a := ⟨kl, 1, none⟩) (v := .int .i64 0) (by go_simp); replace lc2 := ck hb (a := ⟨kl, 2, none⟩) (v := .int .i64 16777215) (by go_simp); replace lc3 := ck hb (a := ⟨kl, 3, none⟩) (v := .int .i64 16777215) (by go_simp); replace HB : Below W.heap.size W w2 := bt HB hb; clear hb
      exact hK _ _ ⟨(), fun _ _ => rfl, rfl, ac0, bc0, cc0, pc0, pc1, tc0, tc1, tc2, tc3, tc4, tc5, nc0, nc1, nc2, nc3, lc0, lc1, lc2, lc3, HB⟩
    · have hlit : (regOps Try.f9 8)[3]? = some ({ dst := some 69, op := Op.load 25 (Operand.tmp 11), type := 25, pos := "law.go:32", after := #[], guard := none }) := by kernel_rfl
      obtain rfl := Option.some.inj (hlit.symm.trans hoi)
      have r11 : b.tmps.getD 11 undef = (.pointer (some ⟨kt, 0, none⟩)) := rd ((hT.old 11 (by kernel_rfl)).trans t11)
      refine op_go hoi (want_all rfl) fun K hK => ?_
      clear hT hpre hun hlit hoi
      go_simp
      exact hK _ _ ⟨(), fun _ _ => rfl, rfl, ac0, bc0, cc0, pc0, pc1, tc0, tc1, tc2, tc3, tc4, tc5, nc0, nc1, nc2, nc3, lc0, lc1, lc2, lc3, HB⟩
    · have hlit : (regOps Try.f9 8)[4]? = some ({ dst := some 70, op := Op.load 23 (Operand.tmp 8), type := 23, pos := "law.go:32", after := #[], guard := none }) := by kernel_rfl
      obtain rfl := Option.some.inj (hlit.symm.trans hoi)
      have r8 : b.tmps.getD 8 undef = (.pointer (some ⟨kp, 0, none⟩)) := rd ((hT.old 8 (by kernel_rfl)).trans t8)
      refine op_go hoi (want_all rfl) fun K hK => ?_
      clear hT hpre hun hlit hoi
      go_simp
      exact hK _ _ ⟨(), fun _ _ => rfl, rfl, ac0, bc0, cc0, pc0, pc1, tc0, tc1, tc2, tc3, tc4, tc5, nc0, nc1, nc2, nc3, lc0, lc1, lc2, lc3, HB⟩
    · have hlit : (regOps Try.f9 8)[5]? = some ({ dst := some 71, op := Op.call { callee := Callee.value (Operand.func 31), args := #[Operand.tmp 69, Operand.tmp 70], argTypes := #[25, 23] }, type := 4, pos := "law.go:32", after := #[{ on := 3, ground := Ground.data }, { on := 4, ground := Ground.data }, { on := 2, ground := Ground.chain }], guard := none }) := by kernel_rfl
      obtain rfl := Option.some.inj (hlit.symm.trans hoi)
      have r69 : b.tmps.getD 69 undef = (.agg #[.int .i64 d0, .int .i64 d1, .int .i64 e0, .int .i64 e1, .int .i64 f0, .int .i64 f1]) := rd (hT.at 3 (by kernel_rfl) (pre_of hpre 3 (by kernel_rfl)))
      have r70 : b.tmps.getD 70 undef = (.agg #[.int .i64 g0, .int .i64 g1]) := rd (hT.at 4 (by kernel_rfl) (pre_of hpre 4 (by kernel_rfl)))
      refine op_go hoi (want_all rfl) fun K hK => ?_
      clear hT hpre hun hlit hoi
      go_simp
      go_at_call 31
      refine (has31 _ _ _ _ _ _ _ _ _).mono ?_; rw [m2]; rintro e w2 ⟨rfl, hb⟩; replace ac0 := ck hb (a := ⟨ka, 0, none⟩) (v := .int .i64 a0) (by go_simp); replace bc0 := ck hb (a := ⟨kb, 0, none⟩) (v := .int .i64 b0) (by go_simp); replace cc0 := ck hb (a := ⟨kc, 0, none⟩) (v := .int .i64 c0) (by go_simp); replace pc0 := ck hb (a := ⟨kp, 0, none⟩) (v := .int .i64 g0) (by go_simp); replace pc1 := ck hb (a := ⟨kp, 1, none⟩) (v := .int .i64 g1) (by go_simp); replace tc0 := ck hb (a := ⟨kt, 0, none⟩) (v := .int .i64 d0) (by go_simp); replace tc1 := ck hb (a := ⟨kt, 1, none⟩) (v := .int .i64 d1) (by go_simp); replace tc2 := ck hb (a := ⟨kt, 2, none⟩) (v := .int .i64 e0) (by go_simp); replace tc3 := ck hb (a := ⟨kt, 3, none⟩) (v := .int .i64 e1) (by go_simp); replace tc4 := ck hb (a := ⟨kt, 4, none⟩) (v := .int .i64 f0) (by go_simp); replace tc5 := ck hb (a := ⟨kt, 5, none⟩) (v := .int .i64 f1) (by go_simp); replace nc0 := ck hb (a := ⟨kn, 0, none⟩) (v := .int .i64 g0) (by go_simp); replace nc1 := ck hb (a := ⟨kn, 1, none⟩) (v := .int .i64 g1) (by go_simp); replace nc2 := ck hb (a := ⟨kn, 2, none⟩) (v := .int .i64 g0) (by go_simp); replace nc3 := ck hb (a := ⟨kn, 3, none⟩) (v := .int .i64 g1) (by go_simp); replace lc0 := ck hb (a := ⟨kl, 0, none⟩) (v := .int .i64 0) (by go_simp); replace lc1 := ck hb (a := ⟨kl, 1, none⟩) (v := .int .i64 0) (by go_simp); replace lc2 := ck hb (a := ⟨kl, 2, none⟩) (v := .int .i64 16777215) (by go_simp); replace lc3 := ck hb (a := ⟨kl, 3, none⟩) (v := .int .i64 16777215) (by go_simp); replace HB : Below W.heap.size W w2 := bt HB hb; clear hb
      exact hK _ _ ⟨(), fun _ _ => rfl, rfl, ac0, bc0, cc0, pc0, pc1, tc0, tc1, tc2, tc3, tc4, tc5, nc0, nc1, nc2, nc3, lc0, lc1, lc2, lc3, HB⟩
    · have hlit : (regOps Try.f9 8)[6]? = some ({ dst := some 72, op := Op.binOp BinOp.neq 4 (Operand.tmp 68) (Operand.tmp 71) 4, type := 4, pos := "law.go:32", after := #[{ on := 2, ground := Ground.data }, { on := 5, ground := Ground.data }], guard := none }) := by kernel_rfl
      obtain rfl := Option.some.inj (hlit.symm.trans hoi)
      have r68 : b.tmps.getD 68 undef = (.bool false) := rd (hT.at 2 (by kernel_rfl) (pre_of hpre 2 (by kernel_rfl)))
      have r71 : b.tmps.getD 71 undef = (.bool false) := rd (hT.at 5 (by kernel_rfl) (pre_of hpre 5 (by kernel_rfl)))
      refine op_go hoi (want_all rfl) fun K hK => ?_
      clear hT hpre hun hlit hoi
      go_simp
      exact hK _ _ ⟨(), fun _ _ => rfl, rfl, ac0, bc0, cc0, pc0, pc1, tc0, tc1, tc2, tc3, tc4, tc5, nc0, nc1, nc2, nc3, lc0, lc1, lc2, lc3, HB⟩
    · have hlit : (regOps Try.f9 8)[7]? = some ({ dst := some 73, op := Op.move (Operand.tmp 72), type := 4, pos := "law.go:32", after := #[{ on := 6, ground := Ground.data }, { on := 5, ground := Ground.chain }], guard := none }) := by kernel_rfl
      obtain rfl := Option.some.inj (hlit.symm.trans hoi)
      have r72 : b.tmps.getD 72 undef = (.bool false) := rd (hT.at 6 (by kernel_rfl) (pre_of hpre 6 (by kernel_rfl)))
      refine op_go hoi (want_all rfl) fun K hK => ?_
      clear hT hpre hun hlit hoi
      go_simp
      exact hK _ _ ⟨(), fun _ _ => rfl, rfl, ac0, bc0, cc0, pc0, pc1, tc0, tc1, tc2, tc3, tc4, tc5, nc0, nc1, nc2, nc3, lc0, lc1, lc2, lc3, HB⟩
    · have hlit : (regOps Try.f9 8)[8]? = some ({ dst := some 74, op := Op.load 25 (Operand.tmp 11), type := 25, pos := "law.go:32", after := #[{ on := 7, ground := Ground.guard }], guard := some (7, false) }) := by kernel_rfl
      obtain rfl := Option.some.inj (hlit.symm.trans hoi)
      have r11 : b.tmps.getD 11 undef = (.pointer (some ⟨kt, 0, none⟩)) := rd ((hT.old 11 (by kernel_rfl)).trans t11)
      refine op_go hoi (want_yes rfl (d := 73) (by kernel_rfl) (hT.at 7 (by kernel_rfl) (pre_of hpre 7 (by kernel_rfl)))) fun K hK => ?_
      clear hT hpre hun hlit hoi
      go_simp
      exact hK _ _ ⟨(), fun _ _ => rfl, rfl, ac0, bc0, cc0, pc0, pc1, tc0, tc1, tc2, tc3, tc4, tc5, nc0, nc1, nc2, nc3, lc0, lc1, lc2, lc3, HB⟩
    · have hlit : (regOps Try.f9 8)[9]? = some ({ dst := some 75, op := Op.load 48 (Operand.tmp 14), type := 48, pos := "law.go:32", after := #[{ on := 7, ground := Ground.guard }], guard := some (7, false) }) := by kernel_rfl
      obtain rfl := Option.some.inj (hlit.symm.trans hoi)
      have r14 : b.tmps.getD 14 undef = (.pointer (some ⟨kn, 0, none⟩)) := rd ((hT.old 14 (by kernel_rfl)).trans t14)
      refine op_go hoi (want_yes rfl (d := 73) (by kernel_rfl) (hT.at 7 (by kernel_rfl) (pre_of hpre 7 (by kernel_rfl)))) fun K hK => ?_
      clear hT hpre hun hlit hoi
      go_simp
      exact hK _ _ ⟨(), fun _ _ => rfl, rfl, ac0, bc0, cc0, pc0, pc1, tc0, tc1, tc2, tc3, tc4, tc5, nc0, nc1, nc2, nc3, lc0, lc1, lc2, lc3, HB⟩
    · have hlit : (regOps Try.f9 8)[10]? = some ({ dst := some 76, op := Op.call { callee := Callee.value (Operand.func 43), args := #[Operand.tmp 74, Operand.tmp 75], argTypes := #[25, 48] }, type := 4, pos := "law.go:32", after := #[{ on := 8, ground := Ground.data }, { on := 9, ground := Ground.data }, { on := 7, ground := Ground.chain }, { on := 7, ground := Ground.guard }], guard := some (7, false) }) := by kernel_rfl
      obtain rfl := Option.some.inj (hlit.symm.trans hoi)
      have r74 : b.tmps.getD 74 undef = (.agg #[.int .i64 d0, .int .i64 d1, .int .i64 e0, .int .i64 e1, .int .i64 f0, .int .i64 f1]) := rd (hT.at 8 (by kernel_rfl) (pre_of hpre 8 (by kernel_rfl)))
      have r75 : b.tmps.getD 75 undef = (.agg #[.int .i64 g0, .int .i64 g1, .int .i64 g0, .int .i64 g1]) := rd (hT.at 9 (by kernel_rfl) (pre_of hpre 9 (by kernel_rfl)))
      refine op_go hoi (want_yes rfl (d := 73) (by kernel_rfl) (hT.at 7 (by kernel_rfl) (pre_of hpre 7 (by kernel_rfl)))) fun K hK => ?_
      clear hT hpre hun hlit hoi
      go_simp
      go_at_call 43
      refine (ovl43 _ _ _ _ _ _ _ _ _ _ _).mono ?_; rw [m1]; rintro e w2 ⟨rfl, hb⟩; replace ac0 := ck hb (a := ⟨ka, 0, none⟩) (v := .int .i64 a0) (by go_simp); replace bc0 := ck hb (a := ⟨kb, 0, none⟩) (v := .int .i64 b0) (by go_simp); replace cc0 := ck hb (a := ⟨kc, 0, none⟩) (v := .int .i64 c0) (by go_simp); replace pc0 := ck hb (a := ⟨kp, 0, none⟩) (v := .int .i64 g0) (by go_simp); replace pc1 := ck hb (a := ⟨kp, 1, none⟩) (v := .int .i64 g1) (by go_simp); replace tc0 := ck hb (a := ⟨kt, 0, none⟩) (v := .int .i64 d0) (by go_simp); replace tc1 := ck hb (a := ⟨kt, 1, none⟩) (v := .int .i64 d1) (by go_simp); replace tc2 := ck hb (a := ⟨kt, 2, none⟩) (v := .int .i64 e0) (by go_simp); replace tc3 := ck hb (a := ⟨kt, 3, none⟩) (v := .int .i64 e1) (by go_simp); replace tc4 := ck hb (a := ⟨kt, 4, none⟩) (v := .int .i64 f0) (by go_simp); replace tc5 := ck hb (a := ⟨kt, 5, none⟩) (v := .int .i64 f1) (by go_simp); replace nc0 := ck hb (a := ⟨kn, 0, none⟩) (v := .int .i64 g0) (by go_simp); replace nc1 := ck hb (a := ⟨kn, 1, none⟩) (v := .int .i64 g1) (by go_simp); replace nc2 := ck hb (a := ⟨kn, 2, none⟩) (v := .int .i64 g0) (by go_simp); replace nc3 := ck hb (a := ⟨kn, 3, none⟩) (v := .int .i64 g1) (by go_simp); replace lc0 := ck hb (a := ⟨kl, 0, none⟩) (v := .int .i64 0) (by go_simp); replace lc1 := ck hb (a := ⟨kl, 1, none⟩) (v := .int .i64 0) (by go_simp); replace lc2 := ck hb (a := ⟨kl, 2, none⟩) (v := .int .i64 16777215) (by go_simp); replace lc3 := ck hb (a := ⟨kl, 3, none⟩) (v := .int .i64 16777215) (by go_simp); replace HB : Below W.heap.size W w2 := bt HB hb; clear hb
      exact hK _ _ ⟨(), fun _ _ => rfl, rfl, ac0, bc0, cc0, pc0, pc1, tc0, tc1, tc2, tc3, tc4, tc5, nc0, nc1, nc2, nc3, lc0, lc1, lc2, lc3, HB⟩
    · have hlit : (regOps Try.f9 8)[11]? = some ({ dst := some 77, op := Op.move (Operand.tmp 76), type := 4, pos := "law.go:32", after := #[{ on := 10, ground := Ground.data }, { on := 10, ground := Ground.chain }, { on := 7, ground := Ground.guard }], guard := some (7, false) }) := by kernel_rfl
      obtain rfl := Option.some.inj (hlit.symm.trans hoi)
      have r76 : b.tmps.getD 76 undef = (.bool false) := rd (hT.at 10 (by kernel_rfl) (pre_of hpre 10 (by kernel_rfl)))
      refine op_go hoi (want_yes rfl (d := 73) (by kernel_rfl) (hT.at 7 (by kernel_rfl) (pre_of hpre 7 (by kernel_rfl)))) fun K hK => ?_
      clear hT hpre hun hlit hoi
      go_simp
      exact hK _ _ ⟨(), fun _ _ => rfl, rfl, ac0, bc0, cc0, pc0, pc1, tc0, tc1, tc2, tc3, tc4, tc5, nc0, nc1, nc2, nc3, lc0, lc1, lc2, lc3, HB⟩
    · have hlit : (regOps Try.f9 8)[12]? = some ({ dst := some 78, op := Op.load 25 (Operand.tmp 11), type := 25, pos := "law.go:32", after := #[{ on := 11, ground := Ground.guard }], guard := some (11, true) }) := by kernel_rfl
      obtain rfl := Option.some.inj (hlit.symm.trans hoi)
      exact op_not hoi (want_no rfl (d := 77) (by kernel_rfl) (hT.at 11 (by kernel_rfl) (pre_of hpre 11 (by kernel_rfl)))) ⟨(), fun _ _ => rfl, rfl, ac0, bc0, cc0, pc0, pc1, tc0, tc1, tc2, tc3, tc4, tc5, nc0, nc1, nc2, nc3, lc0, lc1, lc2, lc3, HB⟩
    · have hlit : (regOps Try.f9 8)[13]? = some ({ dst := some 79, op := Op.load 48 (Operand.tmp 15), type := 48, pos := "law.go:32", after := #[{ on := 11, ground := Ground.guard }], guard := some (11, true) }) := by kernel_rfl
      obtain rfl := Option.some.inj (hlit.symm.trans hoi)
      exact op_not hoi (want_no rfl (d := 77) (by kernel_rfl) (hT.at 11 (by kernel_rfl) (pre_of hpre 11 (by kernel_rfl)))) ⟨(), fun _ _ => rfl, rfl, ac0, bc0, cc0, pc0, pc1, tc0, tc1, tc2, tc3, tc4, tc5, nc0, nc1, nc2, nc3, lc0, lc1, lc2, lc3, HB⟩
    · have hlit : (regOps Try.f9 8)[14]? = some ({ dst := some 80, op := Op.call { callee := Callee.value (Operand.func 43), args := #[Operand.tmp 78, Operand.tmp 79], argTypes := #[25, 48] }, type := 4, pos := "law.go:32", after := #[{ on := 12, ground := Ground.data }, { on := 13, ground := Ground.data }, { on := 11, ground := Ground.chain }, { on := 11, ground := Ground.guard }], guard := some (11, true) }) := by kernel_rfl
      obtain rfl := Option.some.inj (hlit.symm.trans hoi)
      exact op_not hoi (want_no rfl (d := 77) (by kernel_rfl) (hT.at 11 (by kernel_rfl) (pre_of hpre 11 (by kernel_rfl)))) ⟨(), fun _ _ => rfl, rfl, ac0, bc0, cc0, pc0, pc1, tc0, tc1, tc2, tc3, tc4, tc5, nc0, nc1, nc2, nc3, lc0, lc1, lc2, lc3, HB⟩
    · have hlit : (regOps Try.f9 8)[15]? = some ({ dst := some 81, op := Op.unOp UnOp.not 4 (Operand.tmp 80), type := 4, pos := "law.go:32", after := #[{ on := 14, ground := Ground.data }, { on := 11, ground := Ground.guard }], guard := some (11, true) }) := by kernel_rfl
      obtain rfl := Option.some.inj (hlit.symm.trans hoi)
      exact op_not hoi (want_no rfl (d := 77) (by kernel_rfl) (hT.at 11 (by kernel_rfl) (pre_of hpre 11 (by kernel_rfl)))) ⟨(), fun _ _ => rfl, rfl, ac0, bc0, cc0, pc0, pc1, tc0, tc1, tc2, tc3, tc4, tc5, nc0, nc1, nc2, nc3, lc0, lc1, lc2, lc3, HB⟩
    · have hlit : (regOps Try.f9 8)[16]? = some ({ dst := some 82, op := Op.pick (Operand.tmp 77) (Operand.tmp 81) (Operand.const (Value.bool false)), type := 4, pos := "law.go:32", after := #[{ on := 11, ground := Ground.data }, { on := 15, ground := Ground.data }, { on := 7, ground := Ground.guard }], guard := some (7, false) }) := by kernel_rfl
      obtain rfl := Option.some.inj (hlit.symm.trans hoi)
      have r77 : b.tmps.getD 77 undef = (.bool false) := rd (hT.at 11 (by kernel_rfl) (pre_of hpre 11 (by kernel_rfl)))
      have r81 : b.tmps.getD 81 undef = (undef) := rd (hT.at 15 (by kernel_rfl) (pre_of hpre 15 (by kernel_rfl)))
      refine op_go hoi (want_yes rfl (d := 73) (by kernel_rfl) (hT.at 7 (by kernel_rfl) (pre_of hpre 7 (by kernel_rfl)))) fun K hK => ?_
      clear hT hpre hun hlit hoi
      go_simp
      exact hK _ _ ⟨(), fun _ _ => rfl, rfl, ac0, bc0, cc0, pc0, pc1, tc0, tc1, tc2, tc3, tc4, tc5, nc0, nc1, nc2, nc3, lc0, lc1, lc2, lc3, HB⟩
    · have hlit : (regOps Try.f9 8)[17]? = some ({ dst := some 83, op := Op.pick (Operand.tmp 73) (Operand.const (Value.bool true)) (Operand.tmp 82), type := 4, pos := "law.go:32", after := #[{ on := 7, ground := Ground.data }, { on := 16, ground := Ground.data }], guard := none }) := by kernel_rfl
      obtain rfl := Option.some.inj (hlit.symm.trans hoi)
      have r73 : b.tmps.getD 73 undef = (.bool false) := rd (hT.at 7 (by kernel_rfl) (pre_of hpre 7 (by kernel_rfl)))
      have r82 : b.tmps.getD 82 undef = (.bool false) := rd (hT.at 16 (by kernel_rfl) (pre_of hpre 16 (by kernel_rfl)))
      refine op_go hoi (want_all rfl) fun K hK => ?_
      clear hT hpre hun hlit hoi
      go_simp
      exact hK _ _ ⟨(), fun _ _ => rfl, rfl, ac0, bc0, cc0, pc0, pc1, tc0, tc1, tc2, tc3, tc4, tc5, nc0, nc1, nc2, nc3, lc0, lc1, lc2, lc3, HB⟩
    · have hlit : (regOps Try.f9 8)[18]? = some ({ dst := some 84, op := Op.move (Operand.tmp 83), type := 4, pos := "law.go:32", after := #[{ on := 17, ground := Ground.data }, { on := 14, ground := Ground.chain }], guard := none }) := by kernel_rfl
      obtain rfl := Option.some.inj (hlit.symm.trans hoi)
      have r83 : b.tmps.getD 83 undef = (.bool false) := rd (hT.at 17 (by kernel_rfl) (pre_of hpre 17 (by kernel_rfl)))
      refine op_go hoi (want_all rfl) fun K hK => ?_
      clear hT hpre hun hlit hoi
      go_simp
      exact hK _ _ ⟨(), fun _ _ => rfl, rfl, ac0, bc0, cc0, pc0, pc1, tc0, tc1, tc2, tc3, tc4, tc5, nc0, nc1, nc2, nc3, lc0, lc1, lc2, lc3, HB⟩
    · have hlit : (regOps Try.f9 8)[19]? = some ({ dst := some 85, op := Op.load 25 (Operand.tmp 11), type := 25, pos := "law.go:32", after := #[{ on := 18, ground := Ground.guard }], guard := some (18, false) }) := by kernel_rfl
      obtain rfl := Option.some.inj (hlit.symm.trans hoi)
      have r11 : b.tmps.getD 11 undef = (.pointer (some ⟨kt, 0, none⟩)) := rd ((hT.old 11 (by kernel_rfl)).trans t11)
      refine op_go hoi (want_yes rfl (d := 84) (by kernel_rfl) (hT.at 18 (by kernel_rfl) (pre_of hpre 18 (by kernel_rfl)))) fun K hK => ?_
      clear hT hpre hun hlit hoi
      go_simp
      exact hK _ _ ⟨(), fun _ _ => rfl, rfl, ac0, bc0, cc0, pc0, pc1, tc0, tc1, tc2, tc3, tc4, tc5, nc0, nc1, nc2, nc3, lc0, lc1, lc2, lc3, HB⟩
    · have hlit : (regOps Try.f9 8)[20]? = some ({ dst := some 86, op := Op.load 48 (Operand.tmp 16), type := 48, pos := "law.go:32", after := #[{ on := 18, ground := Ground.guard }], guard := some (18, false) }) := by kernel_rfl
      obtain rfl := Option.some.inj (hlit.symm.trans hoi)
      have r16 : b.tmps.getD 16 undef = (.pointer (some ⟨kl, 0, none⟩)) := rd ((hT.old 16 (by kernel_rfl)).trans t16)
      refine op_go hoi (want_yes rfl (d := 84) (by kernel_rfl) (hT.at 18 (by kernel_rfl) (pre_of hpre 18 (by kernel_rfl)))) fun K hK => ?_
      clear hT hpre hun hlit hoi
      go_simp
      exact hK _ _ ⟨(), fun _ _ => rfl, rfl, ac0, bc0, cc0, pc0, pc1, tc0, tc1, tc2, tc3, tc4, tc5, nc0, nc1, nc2, nc3, lc0, lc1, lc2, lc3, HB⟩
    · have hlit : (regOps Try.f9 8)[21]? = some ({ dst := some 87, op := Op.call { callee := Callee.value (Operand.func 43), args := #[Operand.tmp 85, Operand.tmp 86], argTypes := #[25, 48] }, type := 4, pos := "law.go:32", after := #[{ on := 19, ground := Ground.data }, { on := 20, ground := Ground.data }, { on := 18, ground := Ground.chain }, { on := 18, ground := Ground.guard }], guard := some (18, false) }) := by kernel_rfl
      obtain rfl := Option.some.inj (hlit.symm.trans hoi)
      have r85 : b.tmps.getD 85 undef = (.agg #[.int .i64 d0, .int .i64 d1, .int .i64 e0, .int .i64 e1, .int .i64 f0, .int .i64 f1]) := rd (hT.at 19 (by kernel_rfl) (pre_of hpre 19 (by kernel_rfl)))
      have r86 : b.tmps.getD 86 undef = (.agg #[.int .i64 0, .int .i64 0, .int .i64 16777215, .int .i64 16777215]) := rd (hT.at 20 (by kernel_rfl) (pre_of hpre 20 (by kernel_rfl)))
      refine op_go hoi (want_yes rfl (d := 84) (by kernel_rfl) (hT.at 18 (by kernel_rfl) (pre_of hpre 18 (by kernel_rfl)))) fun K hK => ?_
      clear hT hpre hun hlit hoi
      go_simp
      go_at_call 43
      refine (ovl43 _ _ _ _ _ _ _ _ _ _ _).mono ?_; rw [m4]; rintro e w2 ⟨rfl, hb⟩; replace ac0 := ck hb (a := ⟨ka, 0, none⟩) (v := .int .i64 a0) (by go_simp); replace bc0 := ck hb (a := ⟨kb, 0, none⟩) (v := .int .i64 b0) (by go_simp); replace cc0 := ck hb (a := ⟨kc, 0, none⟩) (v := .int .i64 c0) (by go_simp); replace pc0 := ck hb (a := ⟨kp, 0, none⟩) (v := .int .i64 g0) (by go_simp); replace pc1 := ck hb (a := ⟨kp, 1, none⟩) (v := .int .i64 g1) (by go_simp); replace tc0 := ck hb (a := ⟨kt, 0, none⟩) (v := .int .i64 d0) (by go_simp); replace tc1 := ck hb (a := ⟨kt, 1, none⟩) (v := .int .i64 d1) (by go_simp); replace tc2 := ck hb (a := ⟨kt, 2, none⟩) (v := .int .i64 e0) (by go_simp); replace tc3 := ck hb (a := ⟨kt, 3, none⟩) (v := .int .i64 e1) (by go_simp); replace tc4 := ck hb (a := ⟨kt, 4, none⟩) (v := .int .i64 f0) (by go_simp); replace tc5 := ck hb (a := ⟨kt, 5, none⟩) (v := .int .i64 f1) (by go_simp); replace nc0 := ck hb (a := ⟨kn, 0, none⟩) (v := .int .i64 g0) (by go_simp); replace nc1 := ck hb (a := ⟨kn, 1, none⟩) (v := .int .i64 g1) (by go_simp); replace nc2 := ck hb (a := ⟨kn, 2, none⟩) (v := .int .i64 g0) (by go_simp); replace nc3 := ck hb (a := ⟨kn, 3, none⟩) (v := .int .i64 g1) (by go_simp); replace lc0 := ck hb (a := ⟨kl, 0, none⟩) (v := .int .i64 0) (by go_simp); replace lc1 := ck hb (a := ⟨kl, 1, none⟩) (v := .int .i64 0) (by go_simp); replace lc2 := ck hb (a := ⟨kl, 2, none⟩) (v := .int .i64 16777215) (by go_simp); replace lc3 := ck hb (a := ⟨kl, 3, none⟩) (v := .int .i64 16777215) (by go_simp); replace HB : Below W.heap.size W w2 := bt HB hb; clear hb
      exact hK _ _ ⟨(), fun _ _ => rfl, rfl, ac0, bc0, cc0, pc0, pc1, tc0, tc1, tc2, tc3, tc4, tc5, nc0, nc1, nc2, nc3, lc0, lc1, lc2, lc3, HB⟩
    · have hlit : (regOps Try.f9 8)[22]? = some ({ dst := some 88, op := Op.unOp UnOp.not 4 (Operand.tmp 87), type := 4, pos := "law.go:32", after := #[{ on := 21, ground := Ground.data }, { on := 18, ground := Ground.guard }], guard := some (18, false) }) := by kernel_rfl
      obtain rfl := Option.some.inj (hlit.symm.trans hoi)
      have r87 : b.tmps.getD 87 undef = (.bool true) := rd (hT.at 21 (by kernel_rfl) (pre_of hpre 21 (by kernel_rfl)))
      refine op_go hoi (want_yes rfl (d := 84) (by kernel_rfl) (hT.at 18 (by kernel_rfl) (pre_of hpre 18 (by kernel_rfl)))) fun K hK => ?_
      clear hT hpre hun hlit hoi
      go_simp
      exact hK _ _ ⟨(), fun _ _ => rfl, rfl, ac0, bc0, cc0, pc0, pc1, tc0, tc1, tc2, tc3, tc4, tc5, nc0, nc1, nc2, nc3, lc0, lc1, lc2, lc3, HB⟩
    · have hlit : (regOps Try.f9 8)[23]? = some ({ dst := some 89, op := Op.pick (Operand.tmp 84) (Operand.const (Value.bool true)) (Operand.tmp 88), type := 4, pos := "law.go:32", after := #[{ on := 18, ground := Ground.data }, { on := 22, ground := Ground.data }], guard := none }) := by kernel_rfl
      obtain rfl := Option.some.inj (hlit.symm.trans hoi)
      have r84 : b.tmps.getD 84 undef = (.bool false) := rd (hT.at 18 (by kernel_rfl) (pre_of hpre 18 (by kernel_rfl)))
      have r88 : b.tmps.getD 88 undef = (.bool false) := rd (hT.at 22 (by kernel_rfl) (pre_of hpre 22 (by kernel_rfl)))
      refine op_go hoi (want_all rfl) fun K hK => ?_
      clear hT hpre hun hlit hoi
      go_simp
      exact hK _ _ ⟨(), fun _ _ => rfl, rfl, ac0, bc0, cc0, pc0, pc1, tc0, tc1, tc2, tc3, tc4, tc5, nc0, nc1, nc2, nc3, lc0, lc1, lc2, lc3, HB⟩
  · intro g b w' hT hS
    rw [hT.all ht]
    have hn : (regOps Try.f9 8).size = 24 := by kernel_rfl
    rw [hn]
    exact he w' hS

end Go.Proofs.Ytandgbpbabmdfaa
