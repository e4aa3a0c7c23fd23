import Derived.Test.YtkamnnkdadfebaaDoorRg
import Derived.Test.YtkamnnkdadfebaaDoorB7
namespace Go.Proofs.YtkamnnkdadfebaaDoor
open Go.RowKit
attribute [local go_sem high] eq24 eq37


/-- What each operation of the region leaves. -/
def region5_6V (sg u0 u1 v0 v1 : Int) : Nat → Value
  | 0 => .agg #[.int .i64 0, .int .u64 0]
  | 1 => .agg #[.int .i64 0, .int .u64 0]
  | 2 => .bool true
  | 3 => .bool true
  | 4 => .agg #[.int .i64 u0, .int .u64 u1]
  | 5 => .int .i64 sg
  | 6 => .agg #[.int .i64 v0, .int .u64 v1]
  | 7 => .int .i64 sg
  | 8 => .bool true
  | 9 => .bool true
  | 10 => .bool true
  | 11 => .agg #[.int .i64 u0, .int .u64 u1]
  | 12 => .int .i64 sg
  | 13 => .bool true
  | 14 => .bool true
  | 15 => .bool true
  | 16 => .bool true
  | 17 => .bool true
  | 18 => .bool true
  | _ => undef

set_option maxHeartbeats 4000000 in
set_option maxRecDepth 100000 in
theorem region5_6 (sg u0 u1 v0 v1 : Int) (kx ky ks : Nat) (W : World) (htab : Tab W) (m1 : ∀ w : World, Calls Tryd.prog 15 #[.agg #[.int .i64 u0, .int .u64 u1]] w fun e w' => e = .returned (.int .i64 sg) ∧ Below w.heap.size w w') (m2 : ∀ w : World, Calls Tryd.prog 15 #[.agg #[.int .i64 v0, .int .u64 v1]] w fun e w' => e = .returned (.int .i64 sg) ∧ Below w.heap.size w w') (e1 : (sg != 0) = true) {id : Nat} {ops : Array Oper} {Q : Exit → Act → World → Prop} {a : Act} {w : World}
    (ho : ops = (regOps Tryd.f5 6)) (hsz : a.tmps.size = 82) (t2 : a.tmps[2]? = some (.pointer (some ⟨kx, 0, none⟩))) (t3 : a.tmps[3]? = some (.pointer (some ⟨ky, 0, none⟩))) (t5 : a.tmps[5]? = some (.pointer (some ⟨ks, 0, none⟩)))
    (h0 : w.drew.cell? ⟨kx, 0, none⟩ = some (.int .i64 u0) ∧ w.drew.cell? ⟨kx, 1, none⟩ = some (.int .u64 u1) ∧ w.drew.cell? ⟨ky, 0, none⟩ = some (.int .i64 v0) ∧ w.drew.cell? ⟨ky, 1, none⟩ = some (.int .u64 v1) ∧ w.drew.cell? ⟨ks, 0, none⟩ = some (.int .i64 0) ∧ w.drew.cell? ⟨ks, 1, none⟩ = some (.int .u64 0) ∧ Below W.heap.size W w.drew)
    (he : ∀ w', w'.cell? ⟨kx, 0, none⟩ = some (.int .i64 u0) ∧ w'.cell? ⟨kx, 1, none⟩ = some (.int .u64 u1) ∧ w'.cell? ⟨ky, 0, none⟩ = some (.int .i64 v0) ∧ w'.cell? ⟨ky, 1, none⟩ = some (.int .u64 v1) ∧ w'.cell? ⟨ks, 0, none⟩ = some (.int .i64 0) ∧ w'.cell? ⟨ks, 1, none⟩ = some (.int .u64 0) ∧ Below W.heap.size W w' → Q .normal ⟨(((((((((((((((((((a.tmps.setIfInBounds 35 (.agg #[.int .i64 0, .int .u64 0])).setIfInBounds 36 (.agg #[.int .i64 0, .int .u64 0])).setIfInBounds 37 (.bool true)).setIfInBounds 38 (.bool true)).setIfInBounds 39 (.agg #[.int .i64 u0, .int .u64 u1])).setIfInBounds 40 (.int .i64 sg)).setIfInBounds 41 (.agg #[.int .i64 v0, .int .u64 v1])).setIfInBounds 42 (.int .i64 sg)).setIfInBounds 43 (.bool true)).setIfInBounds 44 (.bool true)).setIfInBounds 45 (.bool true)).setIfInBounds 46 (.agg #[.int .i64 u0, .int .u64 u1])).setIfInBounds 47 (.int .i64 sg)).setIfInBounds 48 (.bool true)).setIfInBounds 49 (.bool true)).setIfInBounds 50 (.bool true)).setIfInBounds 51 (.bool true)).setIfInBounds 52 (.bool true)).setIfInBounds 4 (.bool true)), a.defers⟩ w') :
    (Code.region id ops true).wp Tryd.prog Q a w := by
  have ht : tidy (regOps Tryd.f5 6) a.tmps.size = true := by rw [hsz]; kernel_rfl
  refine region_tab (G := Unit) (fun _ => (region5_6V sg u0 u1 v0 v1  )) (fun _ _ w' => w'.cell? ⟨kx, 0, none⟩ = some (.int .i64 u0) ∧ w'.cell? ⟨kx, 1, none⟩ = some (.int .u64 u1) ∧ w'.cell? ⟨ky, 0, none⟩ = some (.int .i64 v0) ∧ w'.cell? ⟨ky, 1, none⟩ = some (.int .u64 v1) ∧ w'.cell? ⟨ks, 0, none⟩ = some (.int .i64 0) ∧ w'.cell? ⟨ks, 1, none⟩ = some (.int .u64 0) ∧ Below W.heap.size W w') () (by kernel_rfl) ho ht h0 ?_ ?_
  · intro i o hoi g L b w' hun hpre hT hS
    clear he h0 ho hsz ht
    have hi : i < (regOps Tryd.f5 6).size := (Array.getElem?_eq_some_iff.1 hoi).1
    rw [show (regOps Tryd.f5 6).size = 19 by kernel_rfl] at hi
    obtain ⟨uc0, uc1, vc0, vc1, sc0, sc1, HB⟩ := hS
    have hcases : i = 0 ∨ i = 1 ∨ i = 2 ∨ i = 3 ∨ i = 4 ∨ i = 5 ∨ i = 6 ∨ i = 7 ∨ i = 8 ∨ i = 9 ∨ i = 10 ∨ i = 11 ∨ i = 12 ∨ i = 13 ∨ i = 14 ∨ i = 15 ∨ i = 16 ∨ i = 17 ∨ i = 18 := by omega
    rcases hcases with rfl | rfl | rfl | rfl | rfl | rfl | rfl | rfl | rfl | rfl | rfl | rfl | rfl | rfl | rfl | rfl | rfl | rfl | rfl
    · have hlit : (regOps Tryd.f5 6)[0]? = some ({ dst := some 35, op := Op.load 24 (Operand.tmp 5), type := 24, pos := "law.go:92", after := #[], guard := none }) := by kernel_rfl
      obtain rfl := Option.some.inj (hlit.symm.trans hoi)
      have r5 : b.tmps.getD 5 undef = (.pointer (some ⟨ks, 0, none⟩)) := rd ((hT.old 5 (by kernel_rfl)).trans t5)
      refine op_go hoi (want_all rfl) fun K hK => ?_
      clear hT hpre hun hlit hoi
      go_simp
      exact hK _ _ ⟨(), fun _ _ => rfl, rfl, uc0, uc1, vc0, vc1, sc0, sc1, HB⟩
    · have hlit : (regOps Tryd.f5 6)[1]? = some ({ dst := some 36, op := Op.build 24 #[], type := 24, pos := "law.go:92", after := #[], guard := none }) := by kernel_rfl
      obtain rfl := Option.some.inj (hlit.symm.trans hoi)
      refine op_go hoi (want_all rfl) fun K hK => ?_
      clear hT hpre hun hlit hoi
      go_simp
      exact hK _ _ ⟨(), fun _ _ => rfl, rfl, uc0, uc1, vc0, vc1, sc0, sc1, HB⟩
    · have hlit : (regOps Tryd.f5 6)[2]? = some ({ dst := some 37, op := Op.binOp BinOp.eql 24 (Operand.tmp 35) (Operand.tmp 36) 24, type := 4, pos := "law.go:92", after := #[{ on := 0, ground := Ground.data }, { on := 1, ground := Ground.data }], guard := none }) := by kernel_rfl
      obtain rfl := Option.some.inj (hlit.symm.trans hoi)
      have r35 : b.tmps.getD 35 undef = (.agg #[.int .i64 0, .int .u64 0]) := rd (hT.at 0 (by kernel_rfl) (pre_of hpre 0 (by kernel_rfl)))
      have r36 : b.tmps.getD 36 undef = (.agg #[.int .i64 0, .int .u64 0]) := rd (hT.at 1 (by kernel_rfl) (pre_of hpre 1 (by kernel_rfl)))
      refine op_go hoi (want_all rfl) fun K hK => ?_
      clear hT hpre hun hlit hoi
      go_simp
      exact hK _ _ ⟨(), fun _ _ => rfl, rfl, uc0, uc1, vc0, vc1, sc0, sc1, HB⟩
    · have hlit : (regOps Tryd.f5 6)[3]? = some ({ dst := some 38, op := Op.move (Operand.tmp 37), type := 4, pos := "law.go:92", after := #[{ on := 2, ground := Ground.data }], guard := none }) := by kernel_rfl
      obtain rfl := Option.some.inj (hlit.symm.trans hoi)
      have r37 : b.tmps.getD 37 undef = (.bool true) := rd (hT.at 2 (by kernel_rfl) (pre_of hpre 2 (by kernel_rfl)))
      refine op_go hoi (want_all rfl) fun K hK => ?_
      clear hT hpre hun hlit hoi
      go_simp
      exact hK _ _ ⟨(), fun _ _ => rfl, rfl, uc0, uc1, vc0, vc1, sc0, sc1, HB⟩
    · have hlit : (regOps Tryd.f5 6)[4]? = some ({ dst := some 39, op := Op.load 24 (Operand.tmp 2), type := 24, pos := "law.go:92", after := #[{ on := 3, ground := Ground.guard }], guard := some (3, true) }) := by kernel_rfl
      obtain rfl := Option.some.inj (hlit.symm.trans hoi)
      have r2 : b.tmps.getD 2 undef = (.pointer (some ⟨kx, 0, none⟩)) := rd ((hT.old 2 (by kernel_rfl)).trans t2)
      refine op_go hoi (want_yes rfl (d := 38) (by kernel_rfl) (hT.at 3 (by kernel_rfl) (pre_of hpre 3 (by kernel_rfl)))) fun K hK => ?_
      clear hT hpre hun hlit hoi
      go_simp
      exact hK _ _ ⟨(), fun _ _ => rfl, rfl, uc0, uc1, vc0, vc1, sc0, sc1, HB⟩
    · have hlit : (regOps Tryd.f5 6)[5]? = some ({ dst := some 40, op := Op.call { callee := Callee.value (Operand.func 15), args := #[Operand.tmp 39], argTypes := #[24] }, type := 3, pos := "law.go:92", after := #[{ on := 4, ground := Ground.data }, { on := 3, ground := Ground.chain }, { on := 3, ground := Ground.guard }], guard := some (3, true) }) := by kernel_rfl
      obtain rfl := Option.some.inj (hlit.symm.trans hoi)
      have r39 : b.tmps.getD 39 undef = (.agg #[.int .i64 u0, .int .u64 u1]) := rd (hT.at 4 (by kernel_rfl) (pre_of hpre 4 (by kernel_rfl)))
      refine op_go hoi (want_yes rfl (d := 38) (by kernel_rfl) (hT.at 3 (by kernel_rfl) (pre_of hpre 3 (by kernel_rfl)))) fun K hK => ?_
      clear hT hpre hun hlit hoi
      go_simp
      go_at_call 15
      refine (m1 _).mono ?_; rintro e w2 ⟨rfl, hb⟩; replace uc0 := ck hb (a := ⟨kx, 0, none⟩) (v := .int .i64 u0) (by go_simp); replace uc1 := ck hb (a := ⟨kx, 1, none⟩) (v := .int .u64 u1) (by go_simp); replace vc0 := ck hb (a := ⟨ky, 0, none⟩) (v := .int .i64 v0) (by go_simp); replace vc1 := ck hb (a := ⟨ky, 1, none⟩) (v := .int .u64 v1) (by go_simp); replace sc0 := ck hb (a := ⟨ks, 0, none⟩) (v := .int .i64 0) (by go_simp); replace sc1 := ck hb (a := ⟨ks, 1, none⟩) (v := .int .u64 0) (by go_simp); replace HB : Below W.heap.size W w2 := bt HB hb; clear hb
      exact hK _ _ ⟨(), fun _ _ => rfl, rfl, uc0, uc1, vc0, vc1, sc0, sc1, HB⟩
    · have hlit : (regOps Tryd.f5 6)[6]? = some ({ dst := some 41, op := Op.load 24 (Operand.tmp 3), type := 24, pos := "law.go:92", after := #[{ on := 3, ground := Ground.guard }], guard := some (3, true) }) := by kernel_rfl
      obtain rfl := Option.some.inj (hlit.symm.trans hoi)
      have r3 : b.tmps.getD 3 undef = (.pointer (some ⟨ky, 0, none⟩)) := rd ((hT.old 3 (by kernel_rfl)).trans t3)
      refine op_go hoi (want_yes rfl (d := 38) (by kernel_rfl) (hT.at 3 (by kernel_rfl) (pre_of hpre 3 (by kernel_rfl)))) fun K hK => ?_
      clear hT hpre hun hlit hoi
      go_simp
      exact hK _ _ ⟨(), fun _ _ => rfl, rfl, uc0, uc1, vc0, vc1, sc0, sc1, HB⟩
    · have hlit : (regOps Tryd.f5 6)[7]? = some ({ dst := some 42, op := Op.call { callee := Callee.value (Operand.func 15), args := #[Operand.tmp 41], argTypes := #[24] }, type := 3, pos := "law.go:92", after := #[{ on := 6, ground := Ground.data }, { on := 5, ground := Ground.chain }, { on := 3, ground := Ground.guard }], guard := some (3, true) }) := by kernel_rfl
      obtain rfl := Option.some.inj (hlit.symm.trans hoi)
      have r41 : b.tmps.getD 41 undef = (.agg #[.int .i64 v0, .int .u64 v1]) := rd (hT.at 6 (by kernel_rfl) (pre_of hpre 6 (by kernel_rfl)))
      refine op_go hoi (want_yes rfl (d := 38) (by kernel_rfl) (hT.at 3 (by kernel_rfl) (pre_of hpre 3 (by kernel_rfl)))) fun K hK => ?_
      clear hT hpre hun hlit hoi
      go_simp
      go_at_call 15
      refine (m2 _).mono ?_; rintro e w2 ⟨rfl, hb⟩; replace uc0 := ck hb (a := ⟨kx, 0, none⟩) (v := .int .i64 u0) (by go_simp); replace uc1 := ck hb (a := ⟨kx, 1, none⟩) (v := .int .u64 u1) (by go_simp); replace vc0 := ck hb (a := ⟨ky, 0, none⟩) (v := .int .i64 v0) (by go_simp); replace vc1 := ck hb (a := ⟨ky, 1, none⟩) (v := .int .u64 v1) (by go_simp); replace sc0 := ck hb (a := ⟨ks, 0, none⟩) (v := .int .i64 0) (by go_simp); replace sc1 := ck hb (a := ⟨ks, 1, none⟩) (v := .int .u64 0) (by go_simp); replace HB : Below W.heap.size W w2 := bt HB hb; clear hb
      exact hK _ _ ⟨(), fun _ _ => rfl, rfl, uc0, uc1, vc0, vc1, sc0, sc1, HB⟩
    · have hlit : (regOps Tryd.f5 6)[8]? = some ({ dst := some 43, op := Op.binOp BinOp.eql 3 (Operand.tmp 40) (Operand.tmp 42) 3, type := 4, pos := "law.go:92", after := #[{ on := 5, ground := Ground.data }, { on := 7, ground := Ground.data }, { on := 3, ground := Ground.guard }], guard := some (3, true) }) := by kernel_rfl
      obtain rfl := Option.some.inj (hlit.symm.trans hoi)
      have r40 : b.tmps.getD 40 undef = (.int .i64 sg) := rd (hT.at 5 (by kernel_rfl) (pre_of hpre 5 (by kernel_rfl)))
      have r42 : b.tmps.getD 42 undef = (.int .i64 sg) := rd (hT.at 7 (by kernel_rfl) (pre_of hpre 7 (by kernel_rfl)))
      refine op_go hoi (want_yes rfl (d := 38) (by kernel_rfl) (hT.at 3 (by kernel_rfl) (pre_of hpre 3 (by kernel_rfl)))) fun K hK => ?_
      clear hT hpre hun hlit hoi
      go_simp
      exact hK _ _ ⟨(), fun _ _ => rfl, rfl, uc0, uc1, vc0, vc1, sc0, sc1, HB⟩
    · have hlit : (regOps Tryd.f5 6)[9]? = some ({ dst := some 44, op := Op.pick (Operand.tmp 38) (Operand.tmp 43) (Operand.const (Value.bool false)), type := 4, pos := "law.go:92", after := #[{ on := 3, ground := Ground.data }, { on := 8, ground := Ground.data }], guard := none }) := by kernel_rfl
      obtain rfl := Option.some.inj (hlit.symm.trans hoi)
      have r38 : b.tmps.getD 38 undef = (.bool true) := rd (hT.at 3 (by kernel_rfl) (pre_of hpre 3 (by kernel_rfl)))
      have r43 : b.tmps.getD 43 undef = (.bool true) := rd (hT.at 8 (by kernel_rfl) (pre_of hpre 8 (by kernel_rfl)))
      refine op_go hoi (want_all rfl) fun K hK => ?_
      clear hT hpre hun hlit hoi
      go_simp
      exact hK _ _ ⟨(), fun _ _ => rfl, rfl, uc0, uc1, vc0, vc1, sc0, sc1, HB⟩
    · have hlit : (regOps Tryd.f5 6)[10]? = some ({ dst := some 45, op := Op.move (Operand.tmp 44), type := 4, pos := "law.go:92", after := #[{ on := 9, ground := Ground.data }, { on := 7, ground := Ground.chain }], guard := none }) := by kernel_rfl
      obtain rfl := Option.some.inj (hlit.symm.trans hoi)
      have r44 : b.tmps.getD 44 undef = (.bool true) := rd (hT.at 9 (by kernel_rfl) (pre_of hpre 9 (by kernel_rfl)))
      refine op_go hoi (want_all rfl) fun K hK => ?_
      clear hT hpre hun hlit hoi
      go_simp
      exact hK _ _ ⟨(), fun _ _ => rfl, rfl, uc0, uc1, vc0, vc1, sc0, sc1, HB⟩
    · have hlit : (regOps Tryd.f5 6)[11]? = some ({ dst := some 46, op := Op.load 24 (Operand.tmp 2), type := 24, pos := "law.go:92", after := #[{ on := 10, ground := Ground.guard }], guard := some (10, true) }) := by kernel_rfl
      obtain rfl := Option.some.inj (hlit.symm.trans hoi)
      have r2 : b.tmps.getD 2 undef = (.pointer (some ⟨kx, 0, none⟩)) := rd ((hT.old 2 (by kernel_rfl)).trans t2)
      refine op_go hoi (want_yes rfl (d := 45) (by kernel_rfl) (hT.at 10 (by kernel_rfl) (pre_of hpre 10 (by kernel_rfl)))) fun K hK => ?_
      clear hT hpre hun hlit hoi
      go_simp
      exact hK _ _ ⟨(), fun _ _ => rfl, rfl, uc0, uc1, vc0, vc1, sc0, sc1, HB⟩
    · have hlit : (regOps Tryd.f5 6)[12]? = some ({ dst := some 47, op := Op.call { callee := Callee.value (Operand.func 15), args := #[Operand.tmp 46], argTypes := #[24] }, type := 3, pos := "law.go:92", after := #[{ on := 11, ground := Ground.data }, { on := 10, ground := Ground.chain }, { on := 10, ground := Ground.guard }], guard := some (10, true) }) := by kernel_rfl
      obtain rfl := Option.some.inj (hlit.symm.trans hoi)
      have r46 : b.tmps.getD 46 undef = (.agg #[.int .i64 u0, .int .u64 u1]) := rd (hT.at 11 (by kernel_rfl) (pre_of hpre 11 (by kernel_rfl)))
      refine op_go hoi (want_yes rfl (d := 45) (by kernel_rfl) (hT.at 10 (by kernel_rfl) (pre_of hpre 10 (by kernel_rfl)))) fun K hK => ?_
      clear hT hpre hun hlit hoi
      go_simp
      go_at_call 15
      refine (m1 _).mono ?_; rintro e w2 ⟨rfl, hb⟩; replace uc0 := ck hb (a := ⟨kx, 0, none⟩) (v := .int .i64 u0) (by go_simp); replace uc1 := ck hb (a := ⟨kx, 1, none⟩) (v := .int .u64 u1) (by go_simp); replace vc0 := ck hb (a := ⟨ky, 0, none⟩) (v := .int .i64 v0) (by go_simp); replace vc1 := ck hb (a := ⟨ky, 1, none⟩) (v := .int .u64 v1) (by go_simp); replace sc0 := ck hb (a := ⟨ks, 0, none⟩) (v := .int .i64 0) (by go_simp); replace sc1 := ck hb (a := ⟨ks, 1, none⟩) (v := .int .u64 0) (by go_simp); replace HB : Below W.heap.size W w2 := bt HB hb; clear hb
      exact hK _ _ ⟨(), fun _ _ => rfl, rfl, uc0, uc1, vc0, vc1, sc0, sc1, HB⟩
    · have hlit : (regOps Tryd.f5 6)[13]? = some ({ dst := some 48, op := Op.binOp BinOp.neq 3 (Operand.tmp 47) (Operand.const (Value.int IntKind.i64 0)) 3, type := 4, pos := "law.go:92", after := #[{ on := 12, ground := Ground.data }, { on := 10, ground := Ground.guard }], guard := some (10, true) }) := by kernel_rfl
      obtain rfl := Option.some.inj (hlit.symm.trans hoi)
      have r47 : b.tmps.getD 47 undef = (.int .i64 sg) := rd (hT.at 12 (by kernel_rfl) (pre_of hpre 12 (by kernel_rfl)))
      refine op_go hoi (want_yes rfl (d := 45) (by kernel_rfl) (hT.at 10 (by kernel_rfl) (pre_of hpre 10 (by kernel_rfl)))) fun K hK => ?_
      clear hT hpre hun hlit hoi
      go_simp
      exact hK _ _ ⟨(), fun _ _ => rfl, rfl, uc0, uc1, vc0, vc1, sc0, sc1, HB⟩
    · have hlit : (regOps Tryd.f5 6)[14]? = some ({ dst := some 49, op := Op.pick (Operand.tmp 45) (Operand.tmp 48) (Operand.const (Value.bool false)), type := 4, pos := "law.go:92", after := #[{ on := 10, ground := Ground.data }, { on := 13, ground := Ground.data }], guard := none }) := by kernel_rfl
      obtain rfl := Option.some.inj (hlit.symm.trans hoi)
      have r45 : b.tmps.getD 45 undef = (.bool true) := rd (hT.at 10 (by kernel_rfl) (pre_of hpre 10 (by kernel_rfl)))
      have r48 : b.tmps.getD 48 undef = (.bool true) := rd (hT.at 13 (by kernel_rfl) (pre_of hpre 13 (by kernel_rfl)))
      refine op_go hoi (want_all rfl) fun K hK => ?_
      clear hT hpre hun hlit hoi
      go_simp
      exact hK _ _ ⟨(), fun _ _ => rfl, rfl, uc0, uc1, vc0, vc1, sc0, sc1, HB⟩
    · have hlit : (regOps Tryd.f5 6)[15]? = some ({ dst := some 50, op := Op.move (Operand.tmp 49), type := 4, pos := "law.go:92", after := #[{ on := 14, ground := Ground.data }, { on := 12, ground := Ground.chain }], guard := none }) := by kernel_rfl
      obtain rfl := Option.some.inj (hlit.symm.trans hoi)
      have r49 : b.tmps.getD 49 undef = (.bool true) := rd (hT.at 14 (by kernel_rfl) (pre_of hpre 14 (by kernel_rfl)))
      refine op_go hoi (want_all rfl) fun K hK => ?_
      clear hT hpre hun hlit hoi
      go_simp
      exact hK _ _ ⟨(), fun _ _ => rfl, rfl, uc0, uc1, vc0, vc1, sc0, sc1, HB⟩
    · have hlit : (regOps Tryd.f5 6)[16]? = some ({ dst := some 51, op := Op.call { callee := Callee.value (Operand.func 9), args := #[], argTypes := #[] }, type := 4, pos := "law.go:92", after := #[{ on := 15, ground := Ground.chain }, { on := 15, ground := Ground.guard }], guard := some (15, true) }) := by kernel_rfl
      obtain rfl := Option.some.inj (hlit.symm.trans hoi)
      refine op_go hoi (want_yes rfl (d := 50) (by kernel_rfl) (hT.at 15 (by kernel_rfl) (pre_of hpre 15 (by kernel_rfl)))) fun K hK => ?_
      clear hT hpre hun hlit hoi
      go_simp
      go_at_call 9
      refine (awake9 _ (tab_below htab HB)).mono ?_; rintro e w2 ⟨rfl, hb⟩; replace uc0 := ck hb (a := ⟨kx, 0, none⟩) (v := .int .i64 u0) (by go_simp); replace uc1 := ck hb (a := ⟨kx, 1, none⟩) (v := .int .u64 u1) (by go_simp); replace vc0 := ck hb (a := ⟨ky, 0, none⟩) (v := .int .i64 v0) (by go_simp); replace vc1 := ck hb (a := ⟨ky, 1, none⟩) (v := .int .u64 v1) (by go_simp); replace sc0 := ck hb (a := ⟨ks, 0, none⟩) (v := .int .i64 0) (by go_simp); replace sc1 := ck hb (a := ⟨ks, 1, none⟩) (v := .int .u64 0) (by go_simp); replace HB : Below W.heap.size W w2 := bt HB hb; clear hb
      exact hK _ _ ⟨(), fun _ _ => rfl, rfl, uc0, uc1, vc0, vc1, sc0, sc1, HB⟩
    · have hlit : (regOps Tryd.f5 6)[17]? = some ({ dst := some 52, op := Op.pick (Operand.tmp 50) (Operand.tmp 51) (Operand.const (Value.bool false)), type := 4, pos := "law.go:92", after := #[{ on := 15, ground := Ground.data }, { on := 16, ground := Ground.data }], guard := none }) := by kernel_rfl
      obtain rfl := Option.some.inj (hlit.symm.trans hoi)
      have r50 : b.tmps.getD 50 undef = (.bool true) := rd (hT.at 15 (by kernel_rfl) (pre_of hpre 15 (by kernel_rfl)))
      have r51 : b.tmps.getD 51 undef = (.bool true) := rd (hT.at 16 (by kernel_rfl) (pre_of hpre 16 (by kernel_rfl)))
      refine op_go hoi (want_all rfl) fun K hK => ?_
      clear hT hpre hun hlit hoi
      go_simp
      exact hK _ _ ⟨(), fun _ _ => rfl, rfl, uc0, uc1, vc0, vc1, sc0, sc1, HB⟩
    · have hlit : (regOps Tryd.f5 6)[18]? = some ({ dst := some 4, op := Op.assign (Operand.tmp 52), type := 4, pos := "law.go:92", after := #[{ on := 17, ground := Ground.data }, { on := 16, ground := Ground.chain }, { on := 0, ground := Ground.phase }, { on := 1, ground := Ground.phase }, { on := 2, ground := Ground.phase }, { on := 3, ground := Ground.phase }, { on := 4, ground := Ground.phase }, { on := 5, ground := Ground.phase }, { on := 6, ground := Ground.phase }, { on := 7, ground := Ground.phase }, { on := 8, ground := Ground.phase }, { on := 9, ground := Ground.phase }, { on := 10, ground := Ground.phase }, { on := 11, ground := Ground.phase }, { on := 12, ground := Ground.phase }, { on := 13, ground := Ground.phase }, { on := 14, ground := Ground.phase }, { on := 15, ground := Ground.phase }, { on := 16, ground := Ground.phase }, { on := 17, ground := Ground.phase }], guard := none }) := by kernel_rfl
      obtain rfl := Option.some.inj (hlit.symm.trans hoi)
      have r52 : b.tmps.getD 52 undef = (.bool true) := rd (hT.at 17 (by kernel_rfl) (pre_of hpre 17 (by kernel_rfl)))
      refine op_go hoi (want_all rfl) fun K hK => ?_
      clear hT hpre hun hlit hoi
      go_simp
      exact hK _ _ ⟨(), fun _ _ => rfl, rfl, uc0, uc1, vc0, vc1, sc0, sc1, HB⟩
  · intro g b w' hT hS
    rw [hT.all ht]
    have hn : (regOps Tryd.f5 6).size = 19 := by kernel_rfl
    rw [hn]
    exact he w' hS
set_option maxHeartbeats 4000000 in
set_option maxRecDepth 100000 in
theorem wideFits_n (sg u0 u1 v0 v1 : Int) (w : World) (htab : Tab w)
    (m0 : ∀ w : World, Calls Tryd.prog 13 #[.agg #[.int .i64 u0, .int .u64 u1], .agg #[.int .i64 v0, .int .u64 v1]] w fun e w' => e = .returned (.tuple #[.agg #[.int .i64 0, .int .u64 0], .bool false]) ∧ Below w.heap.size w w') (m3 : ∀ w : World, Calls Tryd.prog 13 #[.agg #[.int .i64 v0, .int .u64 v1], .agg #[.int .i64 u0, .int .u64 u1]] w fun e w' => e = .returned (.tuple #[.agg #[.int .i64 0, .int .u64 0], .bool false]) ∧ Below w.heap.size w w')
    (m1 : ∀ w : World, Calls Tryd.prog 15 #[.agg #[.int .i64 u0, .int .u64 u1]] w fun e w' => e = .returned (.int .i64 sg) ∧ Below w.heap.size w w') (m2 : ∀ w : World, Calls Tryd.prog 15 #[.agg #[.int .i64 v0, .int .u64 v1]] w fun e w' => e = .returned (.int .i64 sg) ∧ Below w.heap.size w w') (e1 : (sg != 0) = true) :
    Calls Tryd.prog 5 #[.agg #[.int .i64 u0, .int .u64 u1], .agg #[.int .i64 v0, .int .u64 v1]] w fun e w' => e = .returned (.bool true) ∧ Below w.heap.size w w' := by
  have HB := Below.refl w.heap.size w
  go_enter Tryd.func5, Tryd.ntmps5
  go_wp2_with fail
  refine (m0 _).mono ?_; rintro e w1 ⟨rfl, hb⟩; (with_reducible (repeat replace hb := undr hb))
  have cx0 := ck hb (a := ⟨w.heap.size, 0, none⟩) (v := .int .i64 u0) (by go_simp)
  have cx1 := ck hb (a := ⟨w.heap.size, 1, none⟩) (v := .int .u64 u1) (by go_simp)
  have cy0 := ck hb (a := ⟨w.heap.size + 1, 0, none⟩) (v := .int .i64 v0) (by go_simp)
  have cy1 := ck hb (a := ⟨w.heap.size + 1, 1, none⟩) (v := .int .u64 v1) (by go_simp)
  have zw_0 : w.heap.size < w1.heap.size := World.block_lt_of_cell? w1 _ cx0
  have nw_0 : ¬ w.heap.size = w1.heap.size := Nat.ne_of_lt zw_0
  have zw_1 : w.heap.size + 1 < w1.heap.size := World.block_lt_of_cell? w1 _ cy0
  have nw_1 : ¬ w.heap.size + 1 = w1.heap.size := Nat.ne_of_lt zw_1
  replace HB : Below w.heap.size w w1 := bt (by repeat (first | (with_reducible exact HB) | (with_reducible exact Below.refl _ _) | (with_reducible apply bd) | (with_reducible apply ba) | (with_reducible refine bs ?_ (by first | (simp; done) | (simp; omega)) _))) hb
  clear hb
  go_wp2_with fail
  refine (m3 _).mono ?_; rintro e w2 ⟨rfl, hb⟩; (with_reducible (repeat replace hb := undr hb))
  replace cx0 := ck hb (a := ⟨w.heap.size, 0, none⟩) (v := .int .i64 u0) (by first | (go_simp; done) | simpa using cx0)
  replace cx1 := ck hb (a := ⟨w.heap.size, 1, none⟩) (v := .int .u64 u1) (by first | (go_simp; done) | simpa using cx1)
  replace cy0 := ck hb (a := ⟨w.heap.size + 1, 0, none⟩) (v := .int .i64 v0) (by first | (go_simp; done) | simpa using cy0)
  replace cy1 := ck hb (a := ⟨w.heap.size + 1, 1, none⟩) (v := .int .u64 v1) (by first | (go_simp; done) | simpa using cy1)
  have cs0 := ck hb (a := ⟨w1.heap.size, 0, none⟩) (v := .int .i64 0) (by go_simp)
  have cs1 := ck hb (a := ⟨w1.heap.size, 1, none⟩) (v := .int .u64 0) (by go_simp)
  replace zw_0 : w.heap.size < w2.heap.size := World.block_lt_of_cell? w2 _ cx0
  replace nw_0 : ¬ w.heap.size = w2.heap.size := Nat.ne_of_lt zw_0
  replace zw_1 : w.heap.size + 1 < w2.heap.size := World.block_lt_of_cell? w2 _ cy0
  replace nw_1 : ¬ w.heap.size + 1 = w2.heap.size := Nat.ne_of_lt zw_1
  have zw1_0 : w1.heap.size < w2.heap.size := World.block_lt_of_cell? w2 _ cs0
  have nw1_0 : ¬ w1.heap.size = w2.heap.size := Nat.ne_of_lt zw1_0
  replace HB : Below w.heap.size w w2 := bt (by repeat (first | (with_reducible exact HB) | (with_reducible exact Below.refl _ _) | (with_reducible apply bd) | (with_reducible apply ba) | (with_reducible refine bs ?_ (by first | (simp; done) | (simp; omega)) _))) hb
  clear hb
  go_wp2_with fail
  refine region5_6 sg u0 u1 v0 v1 w.heap.size (w.heap.size + 1) w1.heap.size w htab m1 m2 e1 (by kernel_rfl) rfl rfl rfl rfl ⟨?_, ?_, ?_, ?_, ?_, ?_, ?_⟩ (fun w9 hS => ?_)
  iterate 6 (focus (go_simp; done))
  · exact (by repeat (first | (with_reducible exact HB) | (with_reducible exact Below.refl _ _) | (with_reducible apply bd) | (with_reducible apply ba) | (with_reducible refine bs ?_ (by first | (simp; done) | (simp; omega)) _)))
  obtain ⟨-, -, -, -, -, -, HB⟩ := hS
  simp only [List.setIfInBounds_toArray, List.set_cons_zero, List.set_cons_succ]
  go_wp2_with fail
  go_ret
  exact ⟨rfl, by repeat (first | (with_reducible exact HB) | (with_reducible exact Below.refl _ _) | (with_reducible apply bd) | (with_reducible apply ba) | (with_reducible refine bs ?_ (by first | (simp; done) | (simp; omega)) _))⟩

set_option maxHeartbeats 4000000 in
set_option maxRecDepth 100000 in
theorem wideFits_y (u0 u1 v0 v1 s0 s1 : Int) (w : World) (htab : Tab w)
    (m0 : ∀ w : World, Calls Tryd.prog 13 #[.agg #[.int .i64 u0, .int .u64 u1], .agg #[.int .i64 v0, .int .u64 v1]] w fun e w' => e = .returned (.tuple #[.agg #[.int .i64 s0, .int .u64 s1], .bool true]) ∧ Below w.heap.size w w') (m3 : ∀ w : World, Calls Tryd.prog 13 #[.agg #[.int .i64 v0, .int .u64 v1], .agg #[.int .i64 u0, .int .u64 u1]] w fun e w' => e = .returned (.tuple #[.agg #[.int .i64 s0, .int .u64 s1], .bool true]) ∧ Below w.heap.size w w')
    (m1 : ∀ w : World, Calls Tryd.prog 14 #[.agg #[.int .i64 s0, .int .u64 s1], .agg #[.int .i64 v0, .int .u64 v1]] w fun e w' => e = .returned (.tuple #[.agg #[.int .i64 u0, .int .u64 u1], .bool true]) ∧ Below w.heap.size w w') (m2 : ∀ w : World, Calls Tryd.prog 14 #[.agg #[.int .i64 s0, .int .u64 s1], .agg #[.int .i64 u0, .int .u64 u1]] w fun e w' => e = .returned (.tuple #[.agg #[.int .i64 v0, .int .u64 v1], .bool true]) ∧ Below w.heap.size w w') :
    Calls Tryd.prog 5 #[.agg #[.int .i64 u0, .int .u64 u1], .agg #[.int .i64 v0, .int .u64 v1]] w fun e w' => e = .returned (.bool true) ∧ Below w.heap.size w w' := by
  have HB := Below.refl w.heap.size w
  go_enter Tryd.func5, Tryd.ntmps5
  go_wp2_with fail
  refine (m0 _).mono ?_; rintro e w1 ⟨rfl, hb⟩; (with_reducible (repeat replace hb := undr hb))
  have cx0 := ck hb (a := ⟨w.heap.size, 0, none⟩) (v := .int .i64 u0) (by go_simp)
  have cx1 := ck hb (a := ⟨w.heap.size, 1, none⟩) (v := .int .u64 u1) (by go_simp)
  have cy0 := ck hb (a := ⟨w.heap.size + 1, 0, none⟩) (v := .int .i64 v0) (by go_simp)
  have cy1 := ck hb (a := ⟨w.heap.size + 1, 1, none⟩) (v := .int .u64 v1) (by go_simp)
  have zw_0 : w.heap.size < w1.heap.size := World.block_lt_of_cell? w1 _ cx0
  have nw_0 : ¬ w.heap.size = w1.heap.size := Nat.ne_of_lt zw_0
  have zw_1 : w.heap.size + 1 < w1.heap.size := World.block_lt_of_cell? w1 _ cy0
  have nw_1 : ¬ w.heap.size + 1 = w1.heap.size := Nat.ne_of_lt zw_1
  replace HB : Below w.heap.size w w1 := bt (by repeat (first | (with_reducible exact HB) | (with_reducible exact Below.refl _ _) | (with_reducible apply bd) | (with_reducible apply ba) | (with_reducible refine bs ?_ (by first | (simp; done) | (simp; omega)) _))) hb
  clear hb
  go_wp2_with fail
  refine (m3 _).mono ?_; rintro e w2 ⟨rfl, hb⟩; (with_reducible (repeat replace hb := undr hb))
  replace cx0 := ck hb (a := ⟨w.heap.size, 0, none⟩) (v := .int .i64 u0) (by first | (go_simp; done) | simpa using cx0)
  replace cx1 := ck hb (a := ⟨w.heap.size, 1, none⟩) (v := .int .u64 u1) (by first | (go_simp; done) | simpa using cx1)
  replace cy0 := ck hb (a := ⟨w.heap.size + 1, 0, none⟩) (v := .int .i64 v0) (by first | (go_simp; done) | simpa using cy0)
  replace cy1 := ck hb (a := ⟨w.heap.size + 1, 1, none⟩) (v := .int .u64 v1) (by first | (go_simp; done) | simpa using cy1)
  have cs0 := ck hb (a := ⟨w1.heap.size, 0, none⟩) (v := .int .i64 s0) (by go_simp)
  have cs1 := ck hb (a := ⟨w1.heap.size, 1, none⟩) (v := .int .u64 s1) (by go_simp)
  replace zw_0 : w.heap.size < w2.heap.size := World.block_lt_of_cell? w2 _ cx0
  replace nw_0 : ¬ w.heap.size = w2.heap.size := Nat.ne_of_lt zw_0
  replace zw_1 : w.heap.size + 1 < w2.heap.size := World.block_lt_of_cell? w2 _ cy0
  replace nw_1 : ¬ w.heap.size + 1 = w2.heap.size := Nat.ne_of_lt zw_1
  have zw1_0 : w1.heap.size < w2.heap.size := World.block_lt_of_cell? w2 _ cs0
  have nw1_0 : ¬ w1.heap.size = w2.heap.size := Nat.ne_of_lt zw1_0
  replace HB : Below w.heap.size w w2 := bt (by repeat (first | (with_reducible exact HB) | (with_reducible exact Below.refl _ _) | (with_reducible apply bd) | (with_reducible apply ba) | (with_reducible refine bs ?_ (by first | (simp; done) | (simp; omega)) _))) hb
  clear hb
  go_wp2_with fail
  refine (m1 _).mono ?_; rintro e w3 ⟨rfl, hb⟩; (with_reducible (repeat replace hb := undr hb))
  replace cx0 := ck hb (a := ⟨w.heap.size, 0, none⟩) (v := .int .i64 u0) (by first | (go_simp; done) | simpa using cx0)
  replace cx1 := ck hb (a := ⟨w.heap.size, 1, none⟩) (v := .int .u64 u1) (by first | (go_simp; done) | simpa using cx1)
  replace cy0 := ck hb (a := ⟨w.heap.size + 1, 0, none⟩) (v := .int .i64 v0) (by first | (go_simp; done) | simpa using cy0)
  replace cy1 := ck hb (a := ⟨w.heap.size + 1, 1, none⟩) (v := .int .u64 v1) (by first | (go_simp; done) | simpa using cy1)
  replace cs0 := ck hb (a := ⟨w1.heap.size, 0, none⟩) (v := .int .i64 s0) (by first | (go_simp; done) | simpa using cs0)
  replace cs1 := ck hb (a := ⟨w1.heap.size, 1, none⟩) (v := .int .u64 s1) (by first | (go_simp; done) | simpa using cs1)
  replace zw_0 : w.heap.size < w3.heap.size := World.block_lt_of_cell? w3 _ cx0
  replace nw_0 : ¬ w.heap.size = w3.heap.size := Nat.ne_of_lt zw_0
  replace zw_1 : w.heap.size + 1 < w3.heap.size := World.block_lt_of_cell? w3 _ cy0
  replace nw_1 : ¬ w.heap.size + 1 = w3.heap.size := Nat.ne_of_lt zw_1
  replace zw1_0 : w1.heap.size < w3.heap.size := World.block_lt_of_cell? w3 _ cs0
  replace nw1_0 : ¬ w1.heap.size = w3.heap.size := Nat.ne_of_lt zw1_0
  replace HB : Below w.heap.size w w3 := bt (by repeat (first | (with_reducible exact HB) | (with_reducible exact Below.refl _ _) | (with_reducible apply bd) | (with_reducible apply ba) | (with_reducible refine bs ?_ (by first | (simp; done) | (simp; omega)) _))) hb
  clear hb
  go_wp2_with fail
  refine (m2 _).mono ?_; rintro e w4 ⟨rfl, hb⟩; (with_reducible (repeat replace hb := undr hb))
  replace cx0 := ck hb (a := ⟨w.heap.size, 0, none⟩) (v := .int .i64 u0) (by first | (go_simp; done) | simpa using cx0)
  replace cx1 := ck hb (a := ⟨w.heap.size, 1, none⟩) (v := .int .u64 u1) (by first | (go_simp; done) | simpa using cx1)
  replace cy0 := ck hb (a := ⟨w.heap.size + 1, 0, none⟩) (v := .int .i64 v0) (by first | (go_simp; done) | simpa using cy0)
  replace cy1 := ck hb (a := ⟨w.heap.size + 1, 1, none⟩) (v := .int .u64 v1) (by first | (go_simp; done) | simpa using cy1)
  have cd0 := ck hb (a := ⟨w3.heap.size, 0, none⟩) (v := .int .i64 u0) (by go_simp)
  have cd1 := ck hb (a := ⟨w3.heap.size, 1, none⟩) (v := .int .u64 u1) (by go_simp)
  replace zw_0 : w.heap.size < w4.heap.size := World.block_lt_of_cell? w4 _ cx0
  replace nw_0 : ¬ w.heap.size = w4.heap.size := Nat.ne_of_lt zw_0
  replace zw_1 : w.heap.size + 1 < w4.heap.size := World.block_lt_of_cell? w4 _ cy0
  replace nw_1 : ¬ w.heap.size + 1 = w4.heap.size := Nat.ne_of_lt zw_1
  have zw3_0 : w3.heap.size < w4.heap.size := World.block_lt_of_cell? w4 _ cd0
  have nw3_0 : ¬ w3.heap.size = w4.heap.size := Nat.ne_of_lt zw3_0
  replace HB : Below w.heap.size w w4 := bt (by repeat (first | (with_reducible exact HB) | (with_reducible exact Below.refl _ _) | (with_reducible apply bd) | (with_reducible apply ba) | (with_reducible refine bs ?_ (by first | (simp; done) | (simp; omega)) _))) hb
  clear hb
  go_wp2_with fail
  refine (awake9 _ (tab_below htab (by repeat (first | (with_reducible exact HB) | (with_reducible exact Below.refl _ _) | (with_reducible apply bd) | (with_reducible apply ba) | (with_reducible refine bs ?_ (by first | (simp; done) | (simp; omega)) _))))).mono ?_; rintro e w5 ⟨rfl, hb⟩; (with_reducible (repeat replace hb := undr hb))
  replace HB : Below w.heap.size w w5 := bt (by repeat (first | (with_reducible exact HB) | (with_reducible exact Below.refl _ _) | (with_reducible apply bd) | (with_reducible apply ba) | (with_reducible refine bs ?_ (by first | (simp; done) | (simp; omega)) _))) hb
  clear hb
  go_wp2_with fail
  go_ret
  exact ⟨rfl, by repeat (first | (with_reducible exact HB) | (with_reducible exact Below.refl _ _) | (with_reducible apply bd) | (with_reducible apply ba) | (with_reducible refine bs ?_ (by first | (simp; done) | (simp; omega)) _))⟩

theorem wideFits_walk (u : Int) (hu : fits u = true) (v : Int) (hv : fits v = true) (w : World) (htab : Tab w) :
    Calls Tryd.prog 5 #[.agg #[.int .i64 (hiW u), .int .u64 (loW u)], .agg #[.int .i64 (hiW v), .int .u64 (loW v)]] w fun e w' => e = .returned (.bool true) ∧ Below w.heap.size w w' := by
  have m0 := fun w => add13 u v w hu hv
  have m3 := fun w => add13 v u w hv hu
  rw [Int.add_comm v u] at m3
  obtain ⟨u1, u2⟩ := fits_bd hu
  obtain ⟨v1, v2⟩ := fits_bd hv
  cases hf : fits (u + v)
  · rw [hf, cutA_no hf] at m0 m3
    have m1 := fun w => sign15 u w
    have m2 := fun w => sign15 v w
    have hn := fits_not hf
    have e : cmpI v 0 = cmpI u 0 := by unfold cmpI; (repeat' split) <;> omega
    have e1 : (cmpI u 0 != 0) = true := bne_iff_ne.2 (by unfold cmpI; (repeat' split) <;> omega)
    rw [e] at m2
    exact wideFits_n _ _ _ _ _ w htab m0 m3 m1 m2 e1
  · rw [hf, cutA_yes hf] at m0 m3
    have m1 := fun w => sub14 (u + v) v w hf hv
    have m2 := fun w => sub14 (u + v) u w hf hu
    rw [show u + v - v = u by omega, cutA_yes hu, hu] at m1
    rw [show u + v - u = v by omega, cutA_yes hv, hv] at m2
    exact wideFits_y _ _ _ _ _ _ w htab m0 m3 m1 m2
end Go.Proofs.YtkamnnkdadfebaaDoor
