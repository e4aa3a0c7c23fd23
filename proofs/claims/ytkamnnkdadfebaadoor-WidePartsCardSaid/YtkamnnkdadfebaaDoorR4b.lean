import Derived.Test.YtkamnnkdadfebaaDoorRg
import Derived.Test.YtkamnnkdadfebaaDoorB7
namespace Go.Proofs.YtkamnnkdadfebaaDoor
open Go.RowKit
attribute [local go_sem high] eq24 eq37


/-- What each operation of the region leaves. -/
def region4_5_00V (aa bb cc bc p0 p1 s0 s1 sg : Int) : Nat → Value
  | 0 => .bool true
  | 1 => .bool true
  | 2 => .bool true
  | 3 => .bool true
  | 4 => .bool true
  | 5 => .agg #[.int .i64 s0, .int .u64 s1]
  | 6 => .int .i64 aa
  | 7 => .int .i64 bb
  | 8 => .int .i64 cc
  | 9 => .int .i64 bc
  | 10 => .agg #[.int .i64 s0, .int .u64 s1]
  | 11 => .bool true
  | 12 => .bool true
  | 13 => .bool true
  | 14 => .agg #[.int .i64 p0, .int .u64 p1]
  | 15 => .int .i64 aa
  | 16 => .int .i64 bb
  | 17 => .agg #[.int .i64 p0, .int .u64 p1]
  | 18 => .bool true
  | 19 => .bool true
  | 20 => .bool true
  | 21 => .int .i64 aa
  | 22 => .int .i64 bb
  | 23 => .agg #[.int .i64 p0, .int .u64 p1]
  | 24 => .int .i64 sg
  | 25 => .bool false
  | 26 => .int .i64 aa
  | 27 => .bool false
  | 28 => .bool false
  | 29 => .int .i64 bb
  | 30 => .bool false
  | 31 => .bool false
  | 32 => .bool true
  | 33 => .bool true
  | 34 => .bool true
  | 35 => .bool true
  | 36 => .bool true
  | 37 => .bool true
  | _ => undef

set_option maxHeartbeats 4000000 in
set_option maxRecDepth 100000 in
theorem region4_5_00 (aa bb cc bc p0 p1 s0 s1 sg : Int) (ks kp : Nat) (W : World) (htab : Tab W) (m3 : ∀ w : World, Calls Tryd.prog 12 #[.int .i64 aa, .int .i64 bc] w fun e w' => e = .returned (.agg #[.int .i64 s0, .int .u64 s1]) ∧ Below w.heap.size w w') (m4 : ∀ w : World, Calls Tryd.prog 12 #[.int .i64 aa, .int .i64 bb] w fun e w' => e = .returned (.agg #[.int .i64 p0, .int .u64 p1]) ∧ Below w.heap.size w w') (m5 : ∀ w : World, Calls Tryd.prog 15 #[.agg #[.int .i64 p0, .int .u64 p1]] w fun e w' => e = .returned (.int .i64 sg) ∧ Below w.heap.size w w') (e1 : (sg == 0) = false) (e2 : (aa == 0) = false) (e3 : (bb == 0) = false) (e4 : IntKind.i64.wrap (bb + cc) = bc) {id : Nat} {ops : Array Oper} {Q : Exit → Act → World → Prop} {a : Act} {w : World}
    (ho : ops = (regOps Tryd.f4 5)) (hsz : a.tmps.size = 81) (t0 : a.tmps[0]? = some (.int .i64 aa)) (t1 : a.tmps[1]? = some (.int .i64 bb)) (t2 : a.tmps[2]? = some (.int .i64 cc)) (t7 : a.tmps[7]? = some (.pointer (some ⟨ks, 0, none⟩))) (t9 : a.tmps[9]? = some (.pointer (some ⟨kp, 0, none⟩))) (t8 : a.tmps[8]? = some (.bool true)) (t10 : a.tmps[10]? = some (.bool true))
    (h0 : w.drew.cell? ⟨ks, 0, none⟩ = some (.int .i64 s0) ∧ w.drew.cell? ⟨ks, 1, none⟩ = some (.int .u64 s1) ∧ w.drew.cell? ⟨kp, 0, none⟩ = some (.int .i64 p0) ∧ w.drew.cell? ⟨kp, 1, none⟩ = some (.int .u64 p1) ∧ Below W.heap.size W w.drew)
    (he : ∀ w', w'.cell? ⟨ks, 0, none⟩ = some (.int .i64 s0) ∧ w'.cell? ⟨ks, 1, none⟩ = some (.int .u64 s1) ∧ w'.cell? ⟨kp, 0, none⟩ = some (.int .i64 p0) ∧ w'.cell? ⟨kp, 1, none⟩ = some (.int .u64 p1) ∧ Below W.heap.size W w' → Q .normal ⟨((((((((((((((((((((((((((((((((((((((a.tmps.setIfInBounds 44 (.bool true)).setIfInBounds 45 (.bool true)).setIfInBounds 46 (.bool true)).setIfInBounds 47 (.bool true)).setIfInBounds 48 (.bool true)).setIfInBounds 49 (.agg #[.int .i64 s0, .int .u64 s1])).setIfInBounds 50 (.int .i64 aa)).setIfInBounds 51 (.int .i64 bb)).setIfInBounds 52 (.int .i64 cc)).setIfInBounds 53 (.int .i64 bc)).setIfInBounds 54 (.agg #[.int .i64 s0, .int .u64 s1])).setIfInBounds 55 (.bool true)).setIfInBounds 56 (.bool true)).setIfInBounds 57 (.bool true)).setIfInBounds 58 (.agg #[.int .i64 p0, .int .u64 p1])).setIfInBounds 59 (.int .i64 aa)).setIfInBounds 60 (.int .i64 bb)).setIfInBounds 61 (.agg #[.int .i64 p0, .int .u64 p1])).setIfInBounds 62 (.bool true)).setIfInBounds 63 (.bool true)).setIfInBounds 64 (.bool true)).setIfInBounds 65 (.int .i64 aa)).setIfInBounds 66 (.int .i64 bb)).setIfInBounds 67 (.agg #[.int .i64 p0, .int .u64 p1])).setIfInBounds 68 (.int .i64 sg)).setIfInBounds 69 (.bool false)).setIfInBounds 70 (.int .i64 aa)).setIfInBounds 71 (.bool false)).setIfInBounds 72 (.bool false)).setIfInBounds 73 (.int .i64 bb)).setIfInBounds 74 (.bool false)).setIfInBounds 75 (.bool false)).setIfInBounds 76 (.bool true)).setIfInBounds 77 (.bool true)).setIfInBounds 78 (.bool true)).setIfInBounds 79 (.bool true)).setIfInBounds 80 (.bool true)).setIfInBounds 6 (.bool true)), a.defers⟩ w') :
    (Code.region id ops true).wp Tryd.prog Q a w := by
  have ht : tidy (regOps Tryd.f4 5) a.tmps.size = true := by rw [hsz]; kernel_rfl
  refine region_tab (G := Unit) (fun _ => (region4_5_00V aa bb cc bc p0 p1 s0 s1 sg  )) (fun _ _ w' => w'.cell? ⟨ks, 0, none⟩ = some (.int .i64 s0) ∧ w'.cell? ⟨ks, 1, none⟩ = some (.int .u64 s1) ∧ w'.cell? ⟨kp, 0, none⟩ = some (.int .i64 p0) ∧ w'.cell? ⟨kp, 1, none⟩ = some (.int .u64 p1) ∧ Below W.heap.size W w') () (by kernel_rfl) ho ht h0 ?_ ?_
  · intro i o hoi g L b w' hun hpre hT hS
    clear he h0 ho hsz ht
    have hi : i < (regOps Tryd.f4 5).size := (Array.getElem?_eq_some_iff.1 hoi).1
    rw [show (regOps Tryd.f4 5).size = 38 by kernel_rfl] at hi
    obtain ⟨sc0, sc1, pc0, pc1, HB⟩ := hS
    have hcases : i = 0 ∨ i = 1 ∨ i = 2 ∨ i = 3 ∨ i = 4 ∨ i = 5 ∨ i = 6 ∨ i = 7 ∨ i = 8 ∨ i = 9 ∨ i = 10 ∨ i = 11 ∨ i = 12 ∨ i = 13 ∨ i = 14 ∨ i = 15 ∨ i = 16 ∨ i = 17 ∨ i = 18 ∨ i = 19 ∨ i = 20 ∨ i = 21 ∨ i = 22 ∨ i = 23 ∨ i = 24 ∨ i = 25 ∨ i = 26 ∨ i = 27 ∨ i = 28 ∨ i = 29 ∨ i = 30 ∨ i = 31 ∨ i = 32 ∨ i = 33 ∨ i = 34 ∨ i = 35 ∨ i = 36 ∨ i = 37 := by omega
    rcases hcases with rfl | rfl | rfl | rfl | rfl | rfl | rfl | rfl | rfl | rfl | rfl | rfl | rfl | rfl | rfl | rfl | rfl | rfl | rfl | rfl | rfl | rfl | rfl | rfl | rfl | rfl | rfl | rfl | rfl | rfl | rfl | rfl | rfl | rfl | rfl | rfl | rfl | rfl
    · have hlit : (regOps Tryd.f4 5)[0]? = some ({ dst := some 44, op := Op.move (Operand.tmp 8), type := 4, pos := "law.go:58", after := #[], guard := none }) := by kernel_rfl
      obtain rfl := Option.some.inj (hlit.symm.trans hoi)
      have r8 : b.tmps.getD 8 undef = (.bool true) := rd ((hT.old 8 (by kernel_rfl)).trans t8)
      refine op_go hoi (want_all rfl) fun K hK => ?_
      clear hT hpre hun hlit hoi
      go_simp
      exact hK _ _ ⟨(), fun _ _ => rfl, rfl, sc0, sc1, pc0, pc1, HB⟩
    · have hlit : (regOps Tryd.f4 5)[1]? = some ({ dst := some 45, op := Op.move (Operand.tmp 44), type := 4, pos := "law.go:58", after := #[{ on := 0, ground := Ground.data }], guard := none }) := by kernel_rfl
      obtain rfl := Option.some.inj (hlit.symm.trans hoi)
      have r44 : b.tmps.getD 44 undef = (.bool true) := rd (hT.at 0 (by kernel_rfl) (pre_of hpre 0 (by kernel_rfl)))
      refine op_go hoi (want_all rfl) fun K hK => ?_
      clear hT hpre hun hlit hoi
      go_simp
      exact hK _ _ ⟨(), fun _ _ => rfl, rfl, sc0, sc1, pc0, pc1, HB⟩
    · have hlit : (regOps Tryd.f4 5)[2]? = some ({ dst := some 46, op := Op.move (Operand.tmp 10), type := 4, pos := "law.go:58", after := #[{ on := 1, ground := Ground.guard }], guard := some (1, true) }) := by kernel_rfl
      obtain rfl := Option.some.inj (hlit.symm.trans hoi)
      have r10 : b.tmps.getD 10 undef = (.bool true) := rd ((hT.old 10 (by kernel_rfl)).trans t10)
      refine op_go hoi (want_yes rfl (d := 45) (by kernel_rfl) (hT.at 1 (by kernel_rfl) (pre_of hpre 1 (by kernel_rfl)))) fun K hK => ?_
      clear hT hpre hun hlit hoi
      go_simp
      exact hK _ _ ⟨(), fun _ _ => rfl, rfl, sc0, sc1, pc0, pc1, HB⟩
    · have hlit : (regOps Tryd.f4 5)[3]? = some ({ dst := some 47, op := Op.pick (Operand.tmp 45) (Operand.tmp 46) (Operand.const (Value.bool false)), type := 4, pos := "law.go:58", after := #[{ on := 1, ground := Ground.data }, { on := 2, ground := Ground.data }], guard := none }) := by kernel_rfl
      obtain rfl := Option.some.inj (hlit.symm.trans hoi)
      have r45 : b.tmps.getD 45 undef = (.bool true) := rd (hT.at 1 (by kernel_rfl) (pre_of hpre 1 (by kernel_rfl)))
      have r46 : b.tmps.getD 46 undef = (.bool true) := rd (hT.at 2 (by kernel_rfl) (pre_of hpre 2 (by kernel_rfl)))
      refine op_go hoi (want_all rfl) fun K hK => ?_
      clear hT hpre hun hlit hoi
      go_simp
      exact hK _ _ ⟨(), fun _ _ => rfl, rfl, sc0, sc1, pc0, pc1, HB⟩
    · have hlit : (regOps Tryd.f4 5)[4]? = some ({ dst := some 48, op := Op.move (Operand.tmp 47), type := 4, pos := "law.go:58", after := #[{ on := 3, ground := Ground.data }, { on := 1, ground := Ground.chain }], guard := none }) := by kernel_rfl
      obtain rfl := Option.some.inj (hlit.symm.trans hoi)
      have r47 : b.tmps.getD 47 undef = (.bool true) := rd (hT.at 3 (by kernel_rfl) (pre_of hpre 3 (by kernel_rfl)))
      refine op_go hoi (want_all rfl) fun K hK => ?_
      clear hT hpre hun hlit hoi
      go_simp
      exact hK _ _ ⟨(), fun _ _ => rfl, rfl, sc0, sc1, pc0, pc1, HB⟩
    · have hlit : (regOps Tryd.f4 5)[5]? = some ({ dst := some 49, op := Op.load 24 (Operand.tmp 7), type := 24, pos := "law.go:58", after := #[{ on := 4, ground := Ground.guard }], guard := some (4, true) }) := by kernel_rfl
      obtain rfl := Option.some.inj (hlit.symm.trans hoi)
      have r7 : b.tmps.getD 7 undef = (.pointer (some ⟨ks, 0, none⟩)) := rd ((hT.old 7 (by kernel_rfl)).trans t7)
      refine op_go hoi (want_yes rfl (d := 48) (by kernel_rfl) (hT.at 4 (by kernel_rfl) (pre_of hpre 4 (by kernel_rfl)))) fun K hK => ?_
      clear hT hpre hun hlit hoi
      go_simp
      exact hK _ _ ⟨(), fun _ _ => rfl, rfl, sc0, sc1, pc0, pc1, HB⟩
    · have hlit : (regOps Tryd.f4 5)[6]? = some ({ dst := some 50, op := Op.move (Operand.tmp 0), type := 3, pos := "law.go:58", after := #[{ on := 4, ground := Ground.guard }], guard := some (4, true) }) := by kernel_rfl
      obtain rfl := Option.some.inj (hlit.symm.trans hoi)
      have r0 : b.tmps.getD 0 undef = (.int .i64 aa) := rd ((hT.old 0 (by kernel_rfl)).trans t0)
      refine op_go hoi (want_yes rfl (d := 48) (by kernel_rfl) (hT.at 4 (by kernel_rfl) (pre_of hpre 4 (by kernel_rfl)))) fun K hK => ?_
      clear hT hpre hun hlit hoi
      go_simp
      exact hK _ _ ⟨(), fun _ _ => rfl, rfl, sc0, sc1, pc0, pc1, HB⟩
    · have hlit : (regOps Tryd.f4 5)[7]? = some ({ dst := some 51, op := Op.move (Operand.tmp 1), type := 3, pos := "law.go:58", after := #[{ on := 4, ground := Ground.guard }], guard := some (4, true) }) := by kernel_rfl
      obtain rfl := Option.some.inj (hlit.symm.trans hoi)
      have r1 : b.tmps.getD 1 undef = (.int .i64 bb) := rd ((hT.old 1 (by kernel_rfl)).trans t1)
      refine op_go hoi (want_yes rfl (d := 48) (by kernel_rfl) (hT.at 4 (by kernel_rfl) (pre_of hpre 4 (by kernel_rfl)))) fun K hK => ?_
      clear hT hpre hun hlit hoi
      go_simp
      exact hK _ _ ⟨(), fun _ _ => rfl, rfl, sc0, sc1, pc0, pc1, HB⟩
    · have hlit : (regOps Tryd.f4 5)[8]? = some ({ dst := some 52, op := Op.move (Operand.tmp 2), type := 3, pos := "law.go:58", after := #[{ on := 4, ground := Ground.guard }], guard := some (4, true) }) := by kernel_rfl
      obtain rfl := Option.some.inj (hlit.symm.trans hoi)
      have r2 : b.tmps.getD 2 undef = (.int .i64 cc) := rd ((hT.old 2 (by kernel_rfl)).trans t2)
      refine op_go hoi (want_yes rfl (d := 48) (by kernel_rfl) (hT.at 4 (by kernel_rfl) (pre_of hpre 4 (by kernel_rfl)))) fun K hK => ?_
      clear hT hpre hun hlit hoi
      go_simp
      exact hK _ _ ⟨(), fun _ _ => rfl, rfl, sc0, sc1, pc0, pc1, HB⟩
    · have hlit : (regOps Tryd.f4 5)[9]? = some ({ dst := some 53, op := Op.binOp BinOp.add 3 (Operand.tmp 51) (Operand.tmp 52) 3, type := 3, pos := "law.go:58", after := #[{ on := 7, ground := Ground.data }, { on := 8, ground := Ground.data }, { on := 4, ground := Ground.guard }], guard := some (4, true) }) := by kernel_rfl
      obtain rfl := Option.some.inj (hlit.symm.trans hoi)
      have r51 : b.tmps.getD 51 undef = (.int .i64 bb) := rd (hT.at 7 (by kernel_rfl) (pre_of hpre 7 (by kernel_rfl)))
      have r52 : b.tmps.getD 52 undef = (.int .i64 cc) := rd (hT.at 8 (by kernel_rfl) (pre_of hpre 8 (by kernel_rfl)))
      refine op_go hoi (want_yes rfl (d := 48) (by kernel_rfl) (hT.at 4 (by kernel_rfl) (pre_of hpre 4 (by kernel_rfl)))) fun K hK => ?_
      clear hT hpre hun hlit hoi
      go_simp
      exact hK _ _ ⟨(), fun _ _ => rfl, rfl, sc0, sc1, pc0, pc1, HB⟩
    · have hlit : (regOps Tryd.f4 5)[10]? = some ({ dst := some 54, op := Op.call { callee := Callee.value (Operand.func 12), args := #[Operand.tmp 50, Operand.tmp 53], argTypes := #[3, 3] }, type := 24, pos := "law.go:58", after := #[{ on := 6, ground := Ground.data }, { on := 9, ground := Ground.data }, { on := 4, ground := Ground.chain }, { on := 4, ground := Ground.guard }], guard := some (4, true) }) := by kernel_rfl
      obtain rfl := Option.some.inj (hlit.symm.trans hoi)
      have r50 : b.tmps.getD 50 undef = (.int .i64 aa) := rd (hT.at 6 (by kernel_rfl) (pre_of hpre 6 (by kernel_rfl)))
      have r53 : b.tmps.getD 53 undef = (.int .i64 bc) := rd (hT.at 9 (by kernel_rfl) (pre_of hpre 9 (by kernel_rfl)))
      refine op_go hoi (want_yes rfl (d := 48) (by kernel_rfl) (hT.at 4 (by kernel_rfl) (pre_of hpre 4 (by kernel_rfl)))) fun K hK => ?_
      clear hT hpre hun hlit hoi
      go_simp
      go_at_call 12
      refine (m3 _).mono ?_; rintro e w2 ⟨rfl, hb⟩; replace sc0 := ck hb (a := ⟨ks, 0, none⟩) (v := .int .i64 s0) (by go_simp); replace sc1 := ck hb (a := ⟨ks, 1, none⟩) (v := .int .u64 s1) (by go_simp); replace pc0 := ck hb (a := ⟨kp, 0, none⟩) (v := .int .i64 p0) (by go_simp); replace pc1 := ck hb (a := ⟨kp, 1, none⟩) (v := .int .u64 p1) (by go_simp); replace HB : Below W.heap.size W w2 := bt HB hb; clear hb
      exact hK _ _ ⟨(), fun _ _ => rfl, rfl, sc0, sc1, pc0, pc1, HB⟩
    · have hlit : (regOps Tryd.f4 5)[11]? = some ({ dst := some 55, op := Op.binOp BinOp.eql 24 (Operand.tmp 49) (Operand.tmp 54) 24, type := 4, pos := "law.go:58", after := #[{ on := 5, ground := Ground.data }, { on := 10, ground := Ground.data }, { on := 4, ground := Ground.guard }], guard := some (4, true) }) := by kernel_rfl
      obtain rfl := Option.some.inj (hlit.symm.trans hoi)
      have r49 : b.tmps.getD 49 undef = (.agg #[.int .i64 s0, .int .u64 s1]) := rd (hT.at 5 (by kernel_rfl) (pre_of hpre 5 (by kernel_rfl)))
      have r54 : b.tmps.getD 54 undef = (.agg #[.int .i64 s0, .int .u64 s1]) := rd (hT.at 10 (by kernel_rfl) (pre_of hpre 10 (by kernel_rfl)))
      refine op_go hoi (want_yes rfl (d := 48) (by kernel_rfl) (hT.at 4 (by kernel_rfl) (pre_of hpre 4 (by kernel_rfl)))) fun K hK => ?_
      clear hT hpre hun hlit hoi
      go_simp
      exact hK _ _ ⟨(), fun _ _ => rfl, rfl, sc0, sc1, pc0, pc1, HB⟩
    · have hlit : (regOps Tryd.f4 5)[12]? = some ({ dst := some 56, op := Op.pick (Operand.tmp 48) (Operand.tmp 55) (Operand.const (Value.bool false)), type := 4, pos := "law.go:58", after := #[{ on := 4, ground := Ground.data }, { on := 11, ground := Ground.data }], guard := none }) := by kernel_rfl
      obtain rfl := Option.some.inj (hlit.symm.trans hoi)
      have r48 : b.tmps.getD 48 undef = (.bool true) := rd (hT.at 4 (by kernel_rfl) (pre_of hpre 4 (by kernel_rfl)))
      have r55 : b.tmps.getD 55 undef = (.bool true) := rd (hT.at 11 (by kernel_rfl) (pre_of hpre 11 (by kernel_rfl)))
      refine op_go hoi (want_all rfl) fun K hK => ?_
      clear hT hpre hun hlit hoi
      go_simp
      exact hK _ _ ⟨(), fun _ _ => rfl, rfl, sc0, sc1, pc0, pc1, HB⟩
    · have hlit : (regOps Tryd.f4 5)[13]? = some ({ dst := some 57, op := Op.move (Operand.tmp 56), type := 4, pos := "law.go:58", after := #[{ on := 12, ground := Ground.data }, { on := 10, ground := Ground.chain }], guard := none }) := by kernel_rfl
      obtain rfl := Option.some.inj (hlit.symm.trans hoi)
      have r56 : b.tmps.getD 56 undef = (.bool true) := rd (hT.at 12 (by kernel_rfl) (pre_of hpre 12 (by kernel_rfl)))
      refine op_go hoi (want_all rfl) fun K hK => ?_
      clear hT hpre hun hlit hoi
      go_simp
      exact hK _ _ ⟨(), fun _ _ => rfl, rfl, sc0, sc1, pc0, pc1, HB⟩
    · have hlit : (regOps Tryd.f4 5)[14]? = some ({ dst := some 58, op := Op.load 24 (Operand.tmp 9), type := 24, pos := "law.go:58", after := #[{ on := 13, ground := Ground.guard }], guard := some (13, true) }) := by kernel_rfl
      obtain rfl := Option.some.inj (hlit.symm.trans hoi)
      have r9 : b.tmps.getD 9 undef = (.pointer (some ⟨kp, 0, none⟩)) := rd ((hT.old 9 (by kernel_rfl)).trans t9)
      refine op_go hoi (want_yes rfl (d := 57) (by kernel_rfl) (hT.at 13 (by kernel_rfl) (pre_of hpre 13 (by kernel_rfl)))) fun K hK => ?_
      clear hT hpre hun hlit hoi
      go_simp
      exact hK _ _ ⟨(), fun _ _ => rfl, rfl, sc0, sc1, pc0, pc1, HB⟩
    · have hlit : (regOps Tryd.f4 5)[15]? = some ({ dst := some 59, op := Op.move (Operand.tmp 0), type := 3, pos := "law.go:58", after := #[{ on := 13, ground := Ground.guard }], guard := some (13, true) }) := by kernel_rfl
      obtain rfl := Option.some.inj (hlit.symm.trans hoi)
      have r0 : b.tmps.getD 0 undef = (.int .i64 aa) := rd ((hT.old 0 (by kernel_rfl)).trans t0)
      refine op_go hoi (want_yes rfl (d := 57) (by kernel_rfl) (hT.at 13 (by kernel_rfl) (pre_of hpre 13 (by kernel_rfl)))) fun K hK => ?_
      clear hT hpre hun hlit hoi
      go_simp
      exact hK _ _ ⟨(), fun _ _ => rfl, rfl, sc0, sc1, pc0, pc1, HB⟩
    · have hlit : (regOps Tryd.f4 5)[16]? = some ({ dst := some 60, op := Op.move (Operand.tmp 1), type := 3, pos := "law.go:58", after := #[{ on := 13, ground := Ground.guard }], guard := some (13, true) }) := by kernel_rfl
      obtain rfl := Option.some.inj (hlit.symm.trans hoi)
      have r1 : b.tmps.getD 1 undef = (.int .i64 bb) := rd ((hT.old 1 (by kernel_rfl)).trans t1)
      refine op_go hoi (want_yes rfl (d := 57) (by kernel_rfl) (hT.at 13 (by kernel_rfl) (pre_of hpre 13 (by kernel_rfl)))) fun K hK => ?_
      clear hT hpre hun hlit hoi
      go_simp
      exact hK _ _ ⟨(), fun _ _ => rfl, rfl, sc0, sc1, pc0, pc1, HB⟩
    · have hlit : (regOps Tryd.f4 5)[17]? = some ({ dst := some 61, op := Op.call { callee := Callee.value (Operand.func 12), args := #[Operand.tmp 59, Operand.tmp 60], argTypes := #[3, 3] }, type := 24, pos := "law.go:58", after := #[{ on := 15, ground := Ground.data }, { on := 16, ground := Ground.data }, { on := 13, ground := Ground.chain }, { on := 13, ground := Ground.guard }], guard := some (13, true) }) := by kernel_rfl
      obtain rfl := Option.some.inj (hlit.symm.trans hoi)
      have r59 : b.tmps.getD 59 undef = (.int .i64 aa) := rd (hT.at 15 (by kernel_rfl) (pre_of hpre 15 (by kernel_rfl)))
      have r60 : b.tmps.getD 60 undef = (.int .i64 bb) := rd (hT.at 16 (by kernel_rfl) (pre_of hpre 16 (by kernel_rfl)))
      refine op_go hoi (want_yes rfl (d := 57) (by kernel_rfl) (hT.at 13 (by kernel_rfl) (pre_of hpre 13 (by kernel_rfl)))) fun K hK => ?_
      clear hT hpre hun hlit hoi
      go_simp
      go_at_call 12
      refine (m4 _).mono ?_; rintro e w2 ⟨rfl, hb⟩; replace sc0 := ck hb (a := ⟨ks, 0, none⟩) (v := .int .i64 s0) (by go_simp); replace sc1 := ck hb (a := ⟨ks, 1, none⟩) (v := .int .u64 s1) (by go_simp); replace pc0 := ck hb (a := ⟨kp, 0, none⟩) (v := .int .i64 p0) (by go_simp); replace pc1 := ck hb (a := ⟨kp, 1, none⟩) (v := .int .u64 p1) (by go_simp); replace HB : Below W.heap.size W w2 := bt HB hb; clear hb
      exact hK _ _ ⟨(), fun _ _ => rfl, rfl, sc0, sc1, pc0, pc1, HB⟩
    · have hlit : (regOps Tryd.f4 5)[18]? = some ({ dst := some 62, op := Op.binOp BinOp.eql 24 (Operand.tmp 58) (Operand.tmp 61) 24, type := 4, pos := "law.go:58", after := #[{ on := 14, ground := Ground.data }, { on := 17, ground := Ground.data }, { on := 13, ground := Ground.guard }], guard := some (13, true) }) := by kernel_rfl
      obtain rfl := Option.some.inj (hlit.symm.trans hoi)
      have r58 : b.tmps.getD 58 undef = (.agg #[.int .i64 p0, .int .u64 p1]) := rd (hT.at 14 (by kernel_rfl) (pre_of hpre 14 (by kernel_rfl)))
      have r61 : b.tmps.getD 61 undef = (.agg #[.int .i64 p0, .int .u64 p1]) := rd (hT.at 17 (by kernel_rfl) (pre_of hpre 17 (by kernel_rfl)))
      refine op_go hoi (want_yes rfl (d := 57) (by kernel_rfl) (hT.at 13 (by kernel_rfl) (pre_of hpre 13 (by kernel_rfl)))) fun K hK => ?_
      clear hT hpre hun hlit hoi
      go_simp
      exact hK _ _ ⟨(), fun _ _ => rfl, rfl, sc0, sc1, pc0, pc1, HB⟩
    · have hlit : (regOps Tryd.f4 5)[19]? = some ({ dst := some 63, op := Op.pick (Operand.tmp 57) (Operand.tmp 62) (Operand.const (Value.bool false)), type := 4, pos := "law.go:58", after := #[{ on := 13, ground := Ground.data }, { on := 18, ground := Ground.data }], guard := none }) := by kernel_rfl
      obtain rfl := Option.some.inj (hlit.symm.trans hoi)
      have r57 : b.tmps.getD 57 undef = (.bool true) := rd (hT.at 13 (by kernel_rfl) (pre_of hpre 13 (by kernel_rfl)))
      have r62 : b.tmps.getD 62 undef = (.bool true) := rd (hT.at 18 (by kernel_rfl) (pre_of hpre 18 (by kernel_rfl)))
      refine op_go hoi (want_all rfl) fun K hK => ?_
      clear hT hpre hun hlit hoi
      go_simp
      exact hK _ _ ⟨(), fun _ _ => rfl, rfl, sc0, sc1, pc0, pc1, HB⟩
    · have hlit : (regOps Tryd.f4 5)[20]? = some ({ dst := some 64, op := Op.move (Operand.tmp 63), type := 4, pos := "law.go:58", after := #[{ on := 19, ground := Ground.data }, { on := 17, ground := Ground.chain }], guard := none }) := by kernel_rfl
      obtain rfl := Option.some.inj (hlit.symm.trans hoi)
      have r63 : b.tmps.getD 63 undef = (.bool true) := rd (hT.at 19 (by kernel_rfl) (pre_of hpre 19 (by kernel_rfl)))
      refine op_go hoi (want_all rfl) fun K hK => ?_
      clear hT hpre hun hlit hoi
      go_simp
      exact hK _ _ ⟨(), fun _ _ => rfl, rfl, sc0, sc1, pc0, pc1, HB⟩
    · have hlit : (regOps Tryd.f4 5)[21]? = some ({ dst := some 65, op := Op.move (Operand.tmp 0), type := 3, pos := "law.go:58", after := #[{ on := 20, ground := Ground.guard }], guard := some (20, true) }) := by kernel_rfl
      obtain rfl := Option.some.inj (hlit.symm.trans hoi)
      have r0 : b.tmps.getD 0 undef = (.int .i64 aa) := rd ((hT.old 0 (by kernel_rfl)).trans t0)
      refine op_go hoi (want_yes rfl (d := 64) (by kernel_rfl) (hT.at 20 (by kernel_rfl) (pre_of hpre 20 (by kernel_rfl)))) fun K hK => ?_
      clear hT hpre hun hlit hoi
      go_simp
      exact hK _ _ ⟨(), fun _ _ => rfl, rfl, sc0, sc1, pc0, pc1, HB⟩
    · have hlit : (regOps Tryd.f4 5)[22]? = some ({ dst := some 66, op := Op.move (Operand.tmp 1), type := 3, pos := "law.go:58", after := #[{ on := 20, ground := Ground.guard }], guard := some (20, true) }) := by kernel_rfl
      obtain rfl := Option.some.inj (hlit.symm.trans hoi)
      have r1 : b.tmps.getD 1 undef = (.int .i64 bb) := rd ((hT.old 1 (by kernel_rfl)).trans t1)
      refine op_go hoi (want_yes rfl (d := 64) (by kernel_rfl) (hT.at 20 (by kernel_rfl) (pre_of hpre 20 (by kernel_rfl)))) fun K hK => ?_
      clear hT hpre hun hlit hoi
      go_simp
      exact hK _ _ ⟨(), fun _ _ => rfl, rfl, sc0, sc1, pc0, pc1, HB⟩
    · have hlit : (regOps Tryd.f4 5)[23]? = some ({ dst := some 67, op := Op.call { callee := Callee.value (Operand.func 12), args := #[Operand.tmp 65, Operand.tmp 66], argTypes := #[3, 3] }, type := 24, pos := "law.go:58", after := #[{ on := 21, ground := Ground.data }, { on := 22, ground := Ground.data }, { on := 20, ground := Ground.chain }, { on := 20, ground := Ground.guard }], guard := some (20, true) }) := by kernel_rfl
      obtain rfl := Option.some.inj (hlit.symm.trans hoi)
      have r65 : b.tmps.getD 65 undef = (.int .i64 aa) := rd (hT.at 21 (by kernel_rfl) (pre_of hpre 21 (by kernel_rfl)))
      have r66 : b.tmps.getD 66 undef = (.int .i64 bb) := rd (hT.at 22 (by kernel_rfl) (pre_of hpre 22 (by kernel_rfl)))
      refine op_go hoi (want_yes rfl (d := 64) (by kernel_rfl) (hT.at 20 (by kernel_rfl) (pre_of hpre 20 (by kernel_rfl)))) fun K hK => ?_
      clear hT hpre hun hlit hoi
      go_simp
      go_at_call 12
      refine (m4 _).mono ?_; rintro e w2 ⟨rfl, hb⟩; replace sc0 := ck hb (a := ⟨ks, 0, none⟩) (v := .int .i64 s0) (by go_simp); replace sc1 := ck hb (a := ⟨ks, 1, none⟩) (v := .int .u64 s1) (by go_simp); replace pc0 := ck hb (a := ⟨kp, 0, none⟩) (v := .int .i64 p0) (by go_simp); replace pc1 := ck hb (a := ⟨kp, 1, none⟩) (v := .int .u64 p1) (by go_simp); replace HB : Below W.heap.size W w2 := bt HB hb; clear hb
      exact hK _ _ ⟨(), fun _ _ => rfl, rfl, sc0, sc1, pc0, pc1, HB⟩
    · have hlit : (regOps Tryd.f4 5)[24]? = some ({ dst := some 68, op := Op.call { callee := Callee.value (Operand.func 15), args := #[Operand.tmp 67], argTypes := #[24] }, type := 3, pos := "law.go:58", after := #[{ on := 23, ground := Ground.data }, { on := 23, ground := Ground.chain }, { on := 20, ground := Ground.guard }], guard := some (20, true) }) := by kernel_rfl
      obtain rfl := Option.some.inj (hlit.symm.trans hoi)
      have r67 : b.tmps.getD 67 undef = (.agg #[.int .i64 p0, .int .u64 p1]) := rd (hT.at 23 (by kernel_rfl) (pre_of hpre 23 (by kernel_rfl)))
      refine op_go hoi (want_yes rfl (d := 64) (by kernel_rfl) (hT.at 20 (by kernel_rfl) (pre_of hpre 20 (by kernel_rfl)))) fun K hK => ?_
      clear hT hpre hun hlit hoi
      go_simp
      go_at_call 15
      refine (m5 _).mono ?_; rintro e w2 ⟨rfl, hb⟩; replace sc0 := ck hb (a := ⟨ks, 0, none⟩) (v := .int .i64 s0) (by go_simp); replace sc1 := ck hb (a := ⟨ks, 1, none⟩) (v := .int .u64 s1) (by go_simp); replace pc0 := ck hb (a := ⟨kp, 0, none⟩) (v := .int .i64 p0) (by go_simp); replace pc1 := ck hb (a := ⟨kp, 1, none⟩) (v := .int .u64 p1) (by go_simp); replace HB : Below W.heap.size W w2 := bt HB hb; clear hb
      exact hK _ _ ⟨(), fun _ _ => rfl, rfl, sc0, sc1, pc0, pc1, HB⟩
    · have hlit : (regOps Tryd.f4 5)[25]? = some ({ dst := some 69, op := Op.binOp BinOp.eql 3 (Operand.tmp 68) (Operand.const (Value.int IntKind.i64 0)) 3, type := 4, pos := "law.go:58", after := #[{ on := 24, ground := Ground.data }, { on := 20, ground := Ground.guard }], guard := some (20, true) }) := by kernel_rfl
      obtain rfl := Option.some.inj (hlit.symm.trans hoi)
      have r68 : b.tmps.getD 68 undef = (.int .i64 sg) := rd (hT.at 24 (by kernel_rfl) (pre_of hpre 24 (by kernel_rfl)))
      refine op_go hoi (want_yes rfl (d := 64) (by kernel_rfl) (hT.at 20 (by kernel_rfl) (pre_of hpre 20 (by kernel_rfl)))) fun K hK => ?_
      clear hT hpre hun hlit hoi
      go_simp
      exact hK _ _ ⟨(), fun _ _ => rfl, rfl, sc0, sc1, pc0, pc1, HB⟩
    · have hlit : (regOps Tryd.f4 5)[26]? = some ({ dst := some 70, op := Op.move (Operand.tmp 0), type := 3, pos := "law.go:58", after := #[{ on := 20, ground := Ground.guard }], guard := some (20, true) }) := by kernel_rfl
      obtain rfl := Option.some.inj (hlit.symm.trans hoi)
      have r0 : b.tmps.getD 0 undef = (.int .i64 aa) := rd ((hT.old 0 (by kernel_rfl)).trans t0)
      refine op_go hoi (want_yes rfl (d := 64) (by kernel_rfl) (hT.at 20 (by kernel_rfl) (pre_of hpre 20 (by kernel_rfl)))) fun K hK => ?_
      clear hT hpre hun hlit hoi
      go_simp
      exact hK _ _ ⟨(), fun _ _ => rfl, rfl, sc0, sc1, pc0, pc1, HB⟩
    · have hlit : (regOps Tryd.f4 5)[27]? = some ({ dst := some 71, op := Op.binOp BinOp.eql 3 (Operand.tmp 70) (Operand.const (Value.int IntKind.i64 0)) 3, type := 4, pos := "law.go:58", after := #[{ on := 26, ground := Ground.data }, { on := 20, ground := Ground.guard }], guard := some (20, true) }) := by kernel_rfl
      obtain rfl := Option.some.inj (hlit.symm.trans hoi)
      have r70 : b.tmps.getD 70 undef = (.int .i64 aa) := rd (hT.at 26 (by kernel_rfl) (pre_of hpre 26 (by kernel_rfl)))
      refine op_go hoi (want_yes rfl (d := 64) (by kernel_rfl) (hT.at 20 (by kernel_rfl) (pre_of hpre 20 (by kernel_rfl)))) fun K hK => ?_
      clear hT hpre hun hlit hoi
      go_simp
      exact hK _ _ ⟨(), fun _ _ => rfl, rfl, sc0, sc1, pc0, pc1, HB⟩
    · have hlit : (regOps Tryd.f4 5)[28]? = some ({ dst := some 72, op := Op.move (Operand.tmp 71), type := 4, pos := "law.go:58", after := #[{ on := 27, ground := Ground.data }, { on := 24, ground := Ground.chain }, { on := 20, ground := Ground.guard }], guard := some (20, true) }) := by kernel_rfl
      obtain rfl := Option.some.inj (hlit.symm.trans hoi)
      have r71 : b.tmps.getD 71 undef = (.bool false) := rd (hT.at 27 (by kernel_rfl) (pre_of hpre 27 (by kernel_rfl)))
      refine op_go hoi (want_yes rfl (d := 64) (by kernel_rfl) (hT.at 20 (by kernel_rfl) (pre_of hpre 20 (by kernel_rfl)))) fun K hK => ?_
      clear hT hpre hun hlit hoi
      go_simp
      exact hK _ _ ⟨(), fun _ _ => rfl, rfl, sc0, sc1, pc0, pc1, HB⟩
    · have hlit : (regOps Tryd.f4 5)[29]? = some ({ dst := some 73, op := Op.move (Operand.tmp 1), type := 3, pos := "law.go:58", after := #[{ on := 28, ground := Ground.guard }], guard := some (28, false) }) := by kernel_rfl
      obtain rfl := Option.some.inj (hlit.symm.trans hoi)
      have r1 : b.tmps.getD 1 undef = (.int .i64 bb) := rd ((hT.old 1 (by kernel_rfl)).trans t1)
      refine op_go hoi (want_yes rfl (d := 72) (by kernel_rfl) (hT.at 28 (by kernel_rfl) (pre_of hpre 28 (by kernel_rfl)))) fun K hK => ?_
      clear hT hpre hun hlit hoi
      go_simp
      exact hK _ _ ⟨(), fun _ _ => rfl, rfl, sc0, sc1, pc0, pc1, HB⟩
    · have hlit : (regOps Tryd.f4 5)[30]? = some ({ dst := some 74, op := Op.binOp BinOp.eql 3 (Operand.tmp 73) (Operand.const (Value.int IntKind.i64 0)) 3, type := 4, pos := "law.go:58", after := #[{ on := 29, ground := Ground.data }, { on := 28, ground := Ground.guard }], guard := some (28, false) }) := by kernel_rfl
      obtain rfl := Option.some.inj (hlit.symm.trans hoi)
      have r73 : b.tmps.getD 73 undef = (.int .i64 bb) := rd (hT.at 29 (by kernel_rfl) (pre_of hpre 29 (by kernel_rfl)))
      refine op_go hoi (want_yes rfl (d := 72) (by kernel_rfl) (hT.at 28 (by kernel_rfl) (pre_of hpre 28 (by kernel_rfl)))) fun K hK => ?_
      clear hT hpre hun hlit hoi
      go_simp
      exact hK _ _ ⟨(), fun _ _ => rfl, rfl, sc0, sc1, pc0, pc1, HB⟩
    · have hlit : (regOps Tryd.f4 5)[31]? = some ({ dst := some 75, op := Op.pick (Operand.tmp 72) (Operand.const (Value.bool true)) (Operand.tmp 74), type := 4, pos := "law.go:58", after := #[{ on := 28, ground := Ground.data }, { on := 30, ground := Ground.data }, { on := 20, ground := Ground.guard }], guard := some (20, true) }) := by kernel_rfl
      obtain rfl := Option.some.inj (hlit.symm.trans hoi)
      have r72 : b.tmps.getD 72 undef = (.bool false) := rd (hT.at 28 (by kernel_rfl) (pre_of hpre 28 (by kernel_rfl)))
      have r74 : b.tmps.getD 74 undef = (.bool false) := rd (hT.at 30 (by kernel_rfl) (pre_of hpre 30 (by kernel_rfl)))
      refine op_go hoi (want_yes rfl (d := 64) (by kernel_rfl) (hT.at 20 (by kernel_rfl) (pre_of hpre 20 (by kernel_rfl)))) fun K hK => ?_
      clear hT hpre hun hlit hoi
      go_simp
      exact hK _ _ ⟨(), fun _ _ => rfl, rfl, sc0, sc1, pc0, pc1, HB⟩
    · have hlit : (regOps Tryd.f4 5)[32]? = some ({ dst := some 76, op := Op.binOp BinOp.eql 4 (Operand.tmp 69) (Operand.tmp 75) 4, type := 4, pos := "law.go:58", after := #[{ on := 25, ground := Ground.data }, { on := 31, ground := Ground.data }, { on := 20, ground := Ground.guard }], guard := some (20, true) }) := by kernel_rfl
      obtain rfl := Option.some.inj (hlit.symm.trans hoi)
      have r69 : b.tmps.getD 69 undef = (.bool false) := rd (hT.at 25 (by kernel_rfl) (pre_of hpre 25 (by kernel_rfl)))
      have r75 : b.tmps.getD 75 undef = (.bool false) := rd (hT.at 31 (by kernel_rfl) (pre_of hpre 31 (by kernel_rfl)))
      refine op_go hoi (want_yes rfl (d := 64) (by kernel_rfl) (hT.at 20 (by kernel_rfl) (pre_of hpre 20 (by kernel_rfl)))) fun K hK => ?_
      clear hT hpre hun hlit hoi
      go_simp
      exact hK _ _ ⟨(), fun _ _ => rfl, rfl, sc0, sc1, pc0, pc1, HB⟩
    · have hlit : (regOps Tryd.f4 5)[33]? = some ({ dst := some 77, op := Op.pick (Operand.tmp 64) (Operand.tmp 76) (Operand.const (Value.bool false)), type := 4, pos := "law.go:58", after := #[{ on := 20, ground := Ground.data }, { on := 32, ground := Ground.data }], guard := none }) := by kernel_rfl
      obtain rfl := Option.some.inj (hlit.symm.trans hoi)
      have r64 : b.tmps.getD 64 undef = (.bool true) := rd (hT.at 20 (by kernel_rfl) (pre_of hpre 20 (by kernel_rfl)))
      have r76 : b.tmps.getD 76 undef = (.bool true) := rd (hT.at 32 (by kernel_rfl) (pre_of hpre 32 (by kernel_rfl)))
      refine op_go hoi (want_all rfl) fun K hK => ?_
      clear hT hpre hun hlit hoi
      go_simp
      exact hK _ _ ⟨(), fun _ _ => rfl, rfl, sc0, sc1, pc0, pc1, HB⟩
    · have hlit : (regOps Tryd.f4 5)[34]? = some ({ dst := some 78, op := Op.move (Operand.tmp 77), type := 4, pos := "law.go:58", after := #[{ on := 33, ground := Ground.data }, { on := 28, ground := Ground.chain }], guard := none }) := by kernel_rfl
      obtain rfl := Option.some.inj (hlit.symm.trans hoi)
      have r77 : b.tmps.getD 77 undef = (.bool true) := rd (hT.at 33 (by kernel_rfl) (pre_of hpre 33 (by kernel_rfl)))
      refine op_go hoi (want_all rfl) fun K hK => ?_
      clear hT hpre hun hlit hoi
      go_simp
      exact hK _ _ ⟨(), fun _ _ => rfl, rfl, sc0, sc1, pc0, pc1, HB⟩
    · have hlit : (regOps Tryd.f4 5)[35]? = some ({ dst := some 79, op := Op.call { callee := Callee.value (Operand.func 9), args := #[], argTypes := #[] }, type := 4, pos := "law.go:58", after := #[{ on := 34, ground := Ground.chain }, { on := 34, ground := Ground.guard }], guard := some (34, true) }) := by kernel_rfl
      obtain rfl := Option.some.inj (hlit.symm.trans hoi)
      refine op_go hoi (want_yes rfl (d := 78) (by kernel_rfl) (hT.at 34 (by kernel_rfl) (pre_of hpre 34 (by kernel_rfl)))) fun K hK => ?_
      clear hT hpre hun hlit hoi
      go_simp
      go_at_call 9
      refine (awake9 _ (tab_below htab HB)).mono ?_; rintro e w2 ⟨rfl, hb⟩; replace sc0 := ck hb (a := ⟨ks, 0, none⟩) (v := .int .i64 s0) (by go_simp); replace sc1 := ck hb (a := ⟨ks, 1, none⟩) (v := .int .u64 s1) (by go_simp); replace pc0 := ck hb (a := ⟨kp, 0, none⟩) (v := .int .i64 p0) (by go_simp); replace pc1 := ck hb (a := ⟨kp, 1, none⟩) (v := .int .u64 p1) (by go_simp); replace HB : Below W.heap.size W w2 := bt HB hb; clear hb
      exact hK _ _ ⟨(), fun _ _ => rfl, rfl, sc0, sc1, pc0, pc1, HB⟩
    · have hlit : (regOps Tryd.f4 5)[36]? = some ({ dst := some 80, op := Op.pick (Operand.tmp 78) (Operand.tmp 79) (Operand.const (Value.bool false)), type := 4, pos := "law.go:58", after := #[{ on := 34, ground := Ground.data }, { on := 35, ground := Ground.data }], guard := none }) := by kernel_rfl
      obtain rfl := Option.some.inj (hlit.symm.trans hoi)
      have r78 : b.tmps.getD 78 undef = (.bool true) := rd (hT.at 34 (by kernel_rfl) (pre_of hpre 34 (by kernel_rfl)))
      have r79 : b.tmps.getD 79 undef = (.bool true) := rd (hT.at 35 (by kernel_rfl) (pre_of hpre 35 (by kernel_rfl)))
      refine op_go hoi (want_all rfl) fun K hK => ?_
      clear hT hpre hun hlit hoi
      go_simp
      exact hK _ _ ⟨(), fun _ _ => rfl, rfl, sc0, sc1, pc0, pc1, HB⟩
    · have hlit : (regOps Tryd.f4 5)[37]? = some ({ dst := some 6, op := Op.assign (Operand.tmp 80), type := 4, pos := "law.go:58", after := #[{ on := 36, ground := Ground.data }, { on := 35, ground := Ground.chain }, { on := 0, ground := Ground.phase }, { on := 1, ground := Ground.phase }, { on := 2, ground := Ground.phase }, { on := 3, ground := Ground.phase }, { on := 4, ground := Ground.phase }, { on := 5, ground := Ground.phase }, { on := 6, ground := Ground.phase }, { on := 7, ground := Ground.phase }, { on := 8, ground := Ground.phase }, { on := 9, ground := Ground.phase }, { on := 10, ground := Ground.phase }, { on := 11, ground := Ground.phase }, { on := 12, ground := Ground.phase }, { on := 13, ground := Ground.phase }, { on := 14, ground := Ground.phase }, { on := 15, ground := Ground.phase }, { on := 16, ground := Ground.phase }, { on := 17, ground := Ground.phase }, { on := 18, ground := Ground.phase }, { on := 19, ground := Ground.phase }, { on := 20, ground := Ground.phase }, { on := 21, ground := Ground.phase }, { on := 22, ground := Ground.phase }, { on := 23, ground := Ground.phase }, { on := 24, ground := Ground.phase }, { on := 25, ground := Ground.phase }, { on := 26, ground := Ground.phase }, { on := 27, ground := Ground.phase }, { on := 28, ground := Ground.phase }, { on := 29, ground := Ground.phase }, { on := 30, ground := Ground.phase }, { on := 31, ground := Ground.phase }, { on := 32, ground := Ground.phase }, { on := 33, ground := Ground.phase }, { on := 34, ground := Ground.phase }, { on := 35, ground := Ground.phase }, { on := 36, ground := Ground.phase }], guard := none }) := by kernel_rfl
      obtain rfl := Option.some.inj (hlit.symm.trans hoi)
      have r80 : b.tmps.getD 80 undef = (.bool true) := rd (hT.at 36 (by kernel_rfl) (pre_of hpre 36 (by kernel_rfl)))
      refine op_go hoi (want_all rfl) fun K hK => ?_
      clear hT hpre hun hlit hoi
      go_simp
      exact hK _ _ ⟨(), fun _ _ => rfl, rfl, sc0, sc1, pc0, pc1, HB⟩
  · intro g b w' hT hS
    rw [hT.all ht]
    have hn : (regOps Tryd.f4 5).size = 38 := by kernel_rfl
    rw [hn]
    exact he w' hS

/-- What each operation of the region leaves. -/
def region4_5_01V (aa bb cc bc p0 p1 s0 s1 sg : Int) : Nat → Value
  | 0 => .bool true
  | 1 => .bool true
  | 2 => .bool true
  | 3 => .bool true
  | 4 => .bool true
  | 5 => .agg #[.int .i64 s0, .int .u64 s1]
  | 6 => .int .i64 aa
  | 7 => .int .i64 bb
  | 8 => .int .i64 cc
  | 9 => .int .i64 bc
  | 10 => .agg #[.int .i64 s0, .int .u64 s1]
  | 11 => .bool true
  | 12 => .bool true
  | 13 => .bool true
  | 14 => .agg #[.int .i64 p0, .int .u64 p1]
  | 15 => .int .i64 aa
  | 16 => .int .i64 bb
  | 17 => .agg #[.int .i64 p0, .int .u64 p1]
  | 18 => .bool true
  | 19 => .bool true
  | 20 => .bool true
  | 21 => .int .i64 aa
  | 22 => .int .i64 bb
  | 23 => .agg #[.int .i64 p0, .int .u64 p1]
  | 24 => .int .i64 sg
  | 25 => .bool true
  | 26 => .int .i64 aa
  | 27 => .bool false
  | 28 => .bool false
  | 29 => .int .i64 bb
  | 30 => .bool true
  | 31 => .bool true
  | 32 => .bool true
  | 33 => .bool true
  | 34 => .bool true
  | 35 => .bool true
  | 36 => .bool true
  | 37 => .bool true
  | _ => undef

set_option maxHeartbeats 4000000 in
set_option maxRecDepth 100000 in
theorem region4_5_01 (aa bb cc bc p0 p1 s0 s1 sg : Int) (ks kp : Nat) (W : World) (htab : Tab W) (m3 : ∀ w : World, Calls Tryd.prog 12 #[.int .i64 aa, .int .i64 bc] w fun e w' => e = .returned (.agg #[.int .i64 s0, .int .u64 s1]) ∧ Below w.heap.size w w') (m4 : ∀ w : World, Calls Tryd.prog 12 #[.int .i64 aa, .int .i64 bb] w fun e w' => e = .returned (.agg #[.int .i64 p0, .int .u64 p1]) ∧ Below w.heap.size w w') (m5 : ∀ w : World, Calls Tryd.prog 15 #[.agg #[.int .i64 p0, .int .u64 p1]] w fun e w' => e = .returned (.int .i64 sg) ∧ Below w.heap.size w w') (e1 : (sg == 0) = true) (e2 : (aa == 0) = false) (e3 : (bb == 0) = true) (e4 : IntKind.i64.wrap (bb + cc) = bc) {id : Nat} {ops : Array Oper} {Q : Exit → Act → World → Prop} {a : Act} {w : World}
    (ho : ops = (regOps Tryd.f4 5)) (hsz : a.tmps.size = 81) (t0 : a.tmps[0]? = some (.int .i64 aa)) (t1 : a.tmps[1]? = some (.int .i64 bb)) (t2 : a.tmps[2]? = some (.int .i64 cc)) (t7 : a.tmps[7]? = some (.pointer (some ⟨ks, 0, none⟩))) (t9 : a.tmps[9]? = some (.pointer (some ⟨kp, 0, none⟩))) (t8 : a.tmps[8]? = some (.bool true)) (t10 : a.tmps[10]? = some (.bool true))
    (h0 : w.drew.cell? ⟨ks, 0, none⟩ = some (.int .i64 s0) ∧ w.drew.cell? ⟨ks, 1, none⟩ = some (.int .u64 s1) ∧ w.drew.cell? ⟨kp, 0, none⟩ = some (.int .i64 p0) ∧ w.drew.cell? ⟨kp, 1, none⟩ = some (.int .u64 p1) ∧ Below W.heap.size W w.drew)
    (he : ∀ w', w'.cell? ⟨ks, 0, none⟩ = some (.int .i64 s0) ∧ w'.cell? ⟨ks, 1, none⟩ = some (.int .u64 s1) ∧ w'.cell? ⟨kp, 0, none⟩ = some (.int .i64 p0) ∧ w'.cell? ⟨kp, 1, none⟩ = some (.int .u64 p1) ∧ Below W.heap.size W w' → Q .normal ⟨((((((((((((((((((((((((((((((((((((((a.tmps.setIfInBounds 44 (.bool true)).setIfInBounds 45 (.bool true)).setIfInBounds 46 (.bool true)).setIfInBounds 47 (.bool true)).setIfInBounds 48 (.bool true)).setIfInBounds 49 (.agg #[.int .i64 s0, .int .u64 s1])).setIfInBounds 50 (.int .i64 aa)).setIfInBounds 51 (.int .i64 bb)).setIfInBounds 52 (.int .i64 cc)).setIfInBounds 53 (.int .i64 bc)).setIfInBounds 54 (.agg #[.int .i64 s0, .int .u64 s1])).setIfInBounds 55 (.bool true)).setIfInBounds 56 (.bool true)).setIfInBounds 57 (.bool true)).setIfInBounds 58 (.agg #[.int .i64 p0, .int .u64 p1])).setIfInBounds 59 (.int .i64 aa)).setIfInBounds 60 (.int .i64 bb)).setIfInBounds 61 (.agg #[.int .i64 p0, .int .u64 p1])).setIfInBounds 62 (.bool true)).setIfInBounds 63 (.bool true)).setIfInBounds 64 (.bool true)).setIfInBounds 65 (.int .i64 aa)).setIfInBounds 66 (.int .i64 bb)).setIfInBounds 67 (.agg #[.int .i64 p0, .int .u64 p1])).setIfInBounds 68 (.int .i64 sg)).setIfInBounds 69 (.bool true)).setIfInBounds 70 (.int .i64 aa)).setIfInBounds 71 (.bool false)).setIfInBounds 72 (.bool false)).setIfInBounds 73 (.int .i64 bb)).setIfInBounds 74 (.bool true)).setIfInBounds 75 (.bool true)).setIfInBounds 76 (.bool true)).setIfInBounds 77 (.bool true)).setIfInBounds 78 (.bool true)).setIfInBounds 79 (.bool true)).setIfInBounds 80 (.bool true)).setIfInBounds 6 (.bool true)), a.defers⟩ w') :
    (Code.region id ops true).wp Tryd.prog Q a w := by
  have ht : tidy (regOps Tryd.f4 5) a.tmps.size = true := by rw [hsz]; kernel_rfl
  refine region_tab (G := Unit) (fun _ => (region4_5_01V aa bb cc bc p0 p1 s0 s1 sg  )) (fun _ _ w' => w'.cell? ⟨ks, 0, none⟩ = some (.int .i64 s0) ∧ w'.cell? ⟨ks, 1, none⟩ = some (.int .u64 s1) ∧ w'.cell? ⟨kp, 0, none⟩ = some (.int .i64 p0) ∧ w'.cell? ⟨kp, 1, none⟩ = some (.int .u64 p1) ∧ Below W.heap.size W w') () (by kernel_rfl) ho ht h0 ?_ ?_
  · intro i o hoi g L b w' hun hpre hT hS
    clear he h0 ho hsz ht
    have hi : i < (regOps Tryd.f4 5).size := (Array.getElem?_eq_some_iff.1 hoi).1
    rw [show (regOps Tryd.f4 5).size = 38 by kernel_rfl] at hi
    obtain ⟨sc0, sc1, pc0, pc1, HB⟩ := hS
    have hcases : i = 0 ∨ i = 1 ∨ i = 2 ∨ i = 3 ∨ i = 4 ∨ i = 5 ∨ i = 6 ∨ i = 7 ∨ i = 8 ∨ i = 9 ∨ i = 10 ∨ i = 11 ∨ i = 12 ∨ i = 13 ∨ i = 14 ∨ i = 15 ∨ i = 16 ∨ i = 17 ∨ i = 18 ∨ i = 19 ∨ i = 20 ∨ i = 21 ∨ i = 22 ∨ i = 23 ∨ i = 24 ∨ i = 25 ∨ i = 26 ∨ i = 27 ∨ i = 28 ∨ i = 29 ∨ i = 30 ∨ i = 31 ∨ i = 32 ∨ i = 33 ∨ i = 34 ∨ i = 35 ∨ i = 36 ∨ i = 37 := by omega
    rcases hcases with rfl | rfl | rfl | rfl | rfl | rfl | rfl | rfl | rfl | rfl | rfl | rfl | rfl | rfl | rfl | rfl | rfl | rfl | rfl | rfl | rfl | rfl | rfl | rfl | rfl | rfl | rfl | rfl | rfl | rfl | rfl | rfl | rfl | rfl | rfl | rfl | rfl | rfl
    · have hlit : (regOps Tryd.f4 5)[0]? = some ({ dst := some 44, op := Op.move (Operand.tmp 8), type := 4, pos := "law.go:58", after := #[], guard := none }) := by kernel_rfl
      obtain rfl := Option.some.inj (hlit.symm.trans hoi)
      have r8 : b.tmps.getD 8 undef = (.bool true) := rd ((hT.old 8 (by kernel_rfl)).trans t8)
      refine op_go hoi (want_all rfl) fun K hK => ?_
      clear hT hpre hun hlit hoi
      go_simp
      exact hK _ _ ⟨(), fun _ _ => rfl, rfl, sc0, sc1, pc0, pc1, HB⟩
    · have hlit : (regOps Tryd.f4 5)[1]? = some ({ dst := some 45, op := Op.move (Operand.tmp 44), type := 4, pos := "law.go:58", after := #[{ on := 0, ground := Ground.data }], guard := none }) := by kernel_rfl
      obtain rfl := Option.some.inj (hlit.symm.trans hoi)
      have r44 : b.tmps.getD 44 undef = (.bool true) := rd (hT.at 0 (by kernel_rfl) (pre_of hpre 0 (by kernel_rfl)))
      refine op_go hoi (want_all rfl) fun K hK => ?_
      clear hT hpre hun hlit hoi
      go_simp
      exact hK _ _ ⟨(), fun _ _ => rfl, rfl, sc0, sc1, pc0, pc1, HB⟩
    · have hlit : (regOps Tryd.f4 5)[2]? = some ({ dst := some 46, op := Op.move (Operand.tmp 10), type := 4, pos := "law.go:58", after := #[{ on := 1, ground := Ground.guard }], guard := some (1, true) }) := by kernel_rfl
      obtain rfl := Option.some.inj (hlit.symm.trans hoi)
      have r10 : b.tmps.getD 10 undef = (.bool true) := rd ((hT.old 10 (by kernel_rfl)).trans t10)
      refine op_go hoi (want_yes rfl (d := 45) (by kernel_rfl) (hT.at 1 (by kernel_rfl) (pre_of hpre 1 (by kernel_rfl)))) fun K hK => ?_
      clear hT hpre hun hlit hoi
      go_simp
      exact hK _ _ ⟨(), fun _ _ => rfl, rfl, sc0, sc1, pc0, pc1, HB⟩
    · have hlit : (regOps Tryd.f4 5)[3]? = some ({ dst := some 47, op := Op.pick (Operand.tmp 45) (Operand.tmp 46) (Operand.const (Value.bool false)), type := 4, pos := "law.go:58", after := #[{ on := 1, ground := Ground.data }, { on := 2, ground := Ground.data }], guard := none }) := by kernel_rfl
      obtain rfl := Option.some.inj (hlit.symm.trans hoi)
      have r45 : b.tmps.getD 45 undef = (.bool true) := rd (hT.at 1 (by kernel_rfl) (pre_of hpre 1 (by kernel_rfl)))
      have r46 : b.tmps.getD 46 undef = (.bool true) := rd (hT.at 2 (by kernel_rfl) (pre_of hpre 2 (by kernel_rfl)))
      refine op_go hoi (want_all rfl) fun K hK => ?_
      clear hT hpre hun hlit hoi
      go_simp
      exact hK _ _ ⟨(), fun _ _ => rfl, rfl, sc0, sc1, pc0, pc1, HB⟩
    · have hlit : (regOps Tryd.f4 5)[4]? = some ({ dst := some 48, op := Op.move (Operand.tmp 47), type := 4, pos := "law.go:58", after := #[{ on := 3, ground := Ground.data }, { on := 1, ground := Ground.chain }], guard := none }) := by kernel_rfl
      obtain rfl := Option.some.inj (hlit.symm.trans hoi)
      have r47 : b.tmps.getD 47 undef = (.bool true) := rd (hT.at 3 (by kernel_rfl) (pre_of hpre 3 (by kernel_rfl)))
      refine op_go hoi (want_all rfl) fun K hK => ?_
      clear hT hpre hun hlit hoi
      go_simp
      exact hK _ _ ⟨(), fun _ _ => rfl, rfl, sc0, sc1, pc0, pc1, HB⟩
    · have hlit : (regOps Tryd.f4 5)[5]? = some ({ dst := some 49, op := Op.load 24 (Operand.tmp 7), type := 24, pos := "law.go:58", after := #[{ on := 4, ground := Ground.guard }], guard := some (4, true) }) := by kernel_rfl
      obtain rfl := Option.some.inj (hlit.symm.trans hoi)
      have r7 : b.tmps.getD 7 undef = (.pointer (some ⟨ks, 0, none⟩)) := rd ((hT.old 7 (by kernel_rfl)).trans t7)
      refine op_go hoi (want_yes rfl (d := 48) (by kernel_rfl) (hT.at 4 (by kernel_rfl) (pre_of hpre 4 (by kernel_rfl)))) fun K hK => ?_
      clear hT hpre hun hlit hoi
      go_simp
      exact hK _ _ ⟨(), fun _ _ => rfl, rfl, sc0, sc1, pc0, pc1, HB⟩
    · have hlit : (regOps Tryd.f4 5)[6]? = some ({ dst := some 50, op := Op.move (Operand.tmp 0), type := 3, pos := "law.go:58", after := #[{ on := 4, ground := Ground.guard }], guard := some (4, true) }) := by kernel_rfl
      obtain rfl := Option.some.inj (hlit.symm.trans hoi)
      have r0 : b.tmps.getD 0 undef = (.int .i64 aa) := rd ((hT.old 0 (by kernel_rfl)).trans t0)
      refine op_go hoi (want_yes rfl (d := 48) (by kernel_rfl) (hT.at 4 (by kernel_rfl) (pre_of hpre 4 (by kernel_rfl)))) fun K hK => ?_
      clear hT hpre hun hlit hoi
      go_simp
      exact hK _ _ ⟨(), fun _ _ => rfl, rfl, sc0, sc1, pc0, pc1, HB⟩
    · have hlit : (regOps Tryd.f4 5)[7]? = some ({ dst := some 51, op := Op.move (Operand.tmp 1), type := 3, pos := "law.go:58", after := #[{ on := 4, ground := Ground.guard }], guard := some (4, true) }) := by kernel_rfl
      obtain rfl := Option.some.inj (hlit.symm.trans hoi)
      have r1 : b.tmps.getD 1 undef = (.int .i64 bb) := rd ((hT.old 1 (by kernel_rfl)).trans t1)
      refine op_go hoi (want_yes rfl (d := 48) (by kernel_rfl) (hT.at 4 (by kernel_rfl) (pre_of hpre 4 (by kernel_rfl)))) fun K hK => ?_
      clear hT hpre hun hlit hoi
      go_simp
      exact hK _ _ ⟨(), fun _ _ => rfl, rfl, sc0, sc1, pc0, pc1, HB⟩
    · have hlit : (regOps Tryd.f4 5)[8]? = some ({ dst := some 52, op := Op.move (Operand.tmp 2), type := 3, pos := "law.go:58", after := #[{ on := 4, ground := Ground.guard }], guard := some (4, true) }) := by kernel_rfl
      obtain rfl := Option.some.inj (hlit.symm.trans hoi)
      have r2 : b.tmps.getD 2 undef = (.int .i64 cc) := rd ((hT.old 2 (by kernel_rfl)).trans t2)
      refine op_go hoi (want_yes rfl (d := 48) (by kernel_rfl) (hT.at 4 (by kernel_rfl) (pre_of hpre 4 (by kernel_rfl)))) fun K hK => ?_
      clear hT hpre hun hlit hoi
      go_simp
      exact hK _ _ ⟨(), fun _ _ => rfl, rfl, sc0, sc1, pc0, pc1, HB⟩
    · have hlit : (regOps Tryd.f4 5)[9]? = some ({ dst := some 53, op := Op.binOp BinOp.add 3 (Operand.tmp 51) (Operand.tmp 52) 3, type := 3, pos := "law.go:58", after := #[{ on := 7, ground := Ground.data }, { on := 8, ground := Ground.data }, { on := 4, ground := Ground.guard }], guard := some (4, true) }) := by kernel_rfl
      obtain rfl := Option.some.inj (hlit.symm.trans hoi)
      have r51 : b.tmps.getD 51 undef = (.int .i64 bb) := rd (hT.at 7 (by kernel_rfl) (pre_of hpre 7 (by kernel_rfl)))
      have r52 : b.tmps.getD 52 undef = (.int .i64 cc) := rd (hT.at 8 (by kernel_rfl) (pre_of hpre 8 (by kernel_rfl)))
      refine op_go hoi (want_yes rfl (d := 48) (by kernel_rfl) (hT.at 4 (by kernel_rfl) (pre_of hpre 4 (by kernel_rfl)))) fun K hK => ?_
      clear hT hpre hun hlit hoi
      go_simp
      exact hK _ _ ⟨(), fun _ _ => rfl, rfl, sc0, sc1, pc0, pc1, HB⟩
    · have hlit : (regOps Tryd.f4 5)[10]? = some ({ dst := some 54, op := Op.call { callee := Callee.value (Operand.func 12), args := #[Operand.tmp 50, Operand.tmp 53], argTypes := #[3, 3] }, type := 24, pos := "law.go:58", after := #[{ on := 6, ground := Ground.data }, { on := 9, ground := Ground.data }, { on := 4, ground := Ground.chain }, { on := 4, ground := Ground.guard }], guard := some (4, true) }) := by kernel_rfl
      obtain rfl := Option.some.inj (hlit.symm.trans hoi)
      have r50 : b.tmps.getD 50 undef = (.int .i64 aa) := rd (hT.at 6 (by kernel_rfl) (pre_of hpre 6 (by kernel_rfl)))
      have r53 : b.tmps.getD 53 undef = (.int .i64 bc) := rd (hT.at 9 (by kernel_rfl) (pre_of hpre 9 (by kernel_rfl)))
      refine op_go hoi (want_yes rfl (d := 48) (by kernel_rfl) (hT.at 4 (by kernel_rfl) (pre_of hpre 4 (by kernel_rfl)))) fun K hK => ?_
      clear hT hpre hun hlit hoi
      go_simp
      go_at_call 12
      refine (m3 _).mono ?_; rintro e w2 ⟨rfl, hb⟩; replace sc0 := ck hb (a := ⟨ks, 0, none⟩) (v := .int .i64 s0) (by go_simp); replace sc1 := ck hb (a := ⟨ks, 1, none⟩) (v := .int .u64 s1) (by go_simp); replace pc0 := ck hb (a := ⟨kp, 0, none⟩) (v := .int .i64 p0) (by go_simp); replace pc1 := ck hb (a := ⟨kp, 1, none⟩) (v := .int .u64 p1) (by go_simp); replace HB : Below W.heap.size W w2 := bt HB hb; clear hb
      exact hK _ _ ⟨(), fun _ _ => rfl, rfl, sc0, sc1, pc0, pc1, HB⟩
    · have hlit : (regOps Tryd.f4 5)[11]? = some ({ dst := some 55, op := Op.binOp BinOp.eql 24 (Operand.tmp 49) (Operand.tmp 54) 24, type := 4, pos := "law.go:58", after := #[{ on := 5, ground := Ground.data }, { on := 10, ground := Ground.data }, { on := 4, ground := Ground.guard }], guard := some (4, true) }) := by kernel_rfl
      obtain rfl := Option.some.inj (hlit.symm.trans hoi)
      have r49 : b.tmps.getD 49 undef = (.agg #[.int .i64 s0, .int .u64 s1]) := rd (hT.at 5 (by kernel_rfl) (pre_of hpre 5 (by kernel_rfl)))
      have r54 : b.tmps.getD 54 undef = (.agg #[.int .i64 s0, .int .u64 s1]) := rd (hT.at 10 (by kernel_rfl) (pre_of hpre 10 (by kernel_rfl)))
      refine op_go hoi (want_yes rfl (d := 48) (by kernel_rfl) (hT.at 4 (by kernel_rfl) (pre_of hpre 4 (by kernel_rfl)))) fun K hK => ?_
      clear hT hpre hun hlit hoi
      go_simp
      exact hK _ _ ⟨(), fun _ _ => rfl, rfl, sc0, sc1, pc0, pc1, HB⟩
    · have hlit : (regOps Tryd.f4 5)[12]? = some ({ dst := some 56, op := Op.pick (Operand.tmp 48) (Operand.tmp 55) (Operand.const (Value.bool false)), type := 4, pos := "law.go:58", after := #[{ on := 4, ground := Ground.data }, { on := 11, ground := Ground.data }], guard := none }) := by kernel_rfl
      obtain rfl := Option.some.inj (hlit.symm.trans hoi)
      have r48 : b.tmps.getD 48 undef = (.bool true) := rd (hT.at 4 (by kernel_rfl) (pre_of hpre 4 (by kernel_rfl)))
      have r55 : b.tmps.getD 55 undef = (.bool true) := rd (hT.at 11 (by kernel_rfl) (pre_of hpre 11 (by kernel_rfl)))
      refine op_go hoi (want_all rfl) fun K hK => ?_
      clear hT hpre hun hlit hoi
      go_simp
      exact hK _ _ ⟨(), fun _ _ => rfl, rfl, sc0, sc1, pc0, pc1, HB⟩
    · have hlit : (regOps Tryd.f4 5)[13]? = some ({ dst := some 57, op := Op.move (Operand.tmp 56), type := 4, pos := "law.go:58", after := #[{ on := 12, ground := Ground.data }, { on := 10, ground := Ground.chain }], guard := none }) := by kernel_rfl
      obtain rfl := Option.some.inj (hlit.symm.trans hoi)
      have r56 : b.tmps.getD 56 undef = (.bool true) := rd (hT.at 12 (by kernel_rfl) (pre_of hpre 12 (by kernel_rfl)))
      refine op_go hoi (want_all rfl) fun K hK => ?_
      clear hT hpre hun hlit hoi
      go_simp
      exact hK _ _ ⟨(), fun _ _ => rfl, rfl, sc0, sc1, pc0, pc1, HB⟩
    · have hlit : (regOps Tryd.f4 5)[14]? = some ({ dst := some 58, op := Op.load 24 (Operand.tmp 9), type := 24, pos := "law.go:58", after := #[{ on := 13, ground := Ground.guard }], guard := some (13, true) }) := by kernel_rfl
      obtain rfl := Option.some.inj (hlit.symm.trans hoi)
      have r9 : b.tmps.getD 9 undef = (.pointer (some ⟨kp, 0, none⟩)) := rd ((hT.old 9 (by kernel_rfl)).trans t9)
      refine op_go hoi (want_yes rfl (d := 57) (by kernel_rfl) (hT.at 13 (by kernel_rfl) (pre_of hpre 13 (by kernel_rfl)))) fun K hK => ?_
      clear hT hpre hun hlit hoi
      go_simp
      exact hK _ _ ⟨(), fun _ _ => rfl, rfl, sc0, sc1, pc0, pc1, HB⟩
    · have hlit : (regOps Tryd.f4 5)[15]? = some ({ dst := some 59, op := Op.move (Operand.tmp 0), type := 3, pos := "law.go:58", after := #[{ on := 13, ground := Ground.guard }], guard := some (13, true) }) := by kernel_rfl
      obtain rfl := Option.some.inj (hlit.symm.trans hoi)
      have r0 : b.tmps.getD 0 undef = (.int .i64 aa) := rd ((hT.old 0 (by kernel_rfl)).trans t0)
      refine op_go hoi (want_yes rfl (d := 57) (by kernel_rfl) (hT.at 13 (by kernel_rfl) (pre_of hpre 13 (by kernel_rfl)))) fun K hK => ?_
      clear hT hpre hun hlit hoi
      go_simp
      exact hK _ _ ⟨(), fun _ _ => rfl, rfl, sc0, sc1, pc0, pc1, HB⟩
    · have hlit : (regOps Tryd.f4 5)[16]? = some ({ dst := some 60, op := Op.move (Operand.tmp 1), type := 3, pos := "law.go:58", after := #[{ on := 13, ground := Ground.guard }], guard := some (13, true) }) := by kernel_rfl
      obtain rfl := Option.some.inj (hlit.symm.trans hoi)
      have r1 : b.tmps.getD 1 undef = (.int .i64 bb) := rd ((hT.old 1 (by kernel_rfl)).trans t1)
      refine op_go hoi (want_yes rfl (d := 57) (by kernel_rfl) (hT.at 13 (by kernel_rfl) (pre_of hpre 13 (by kernel_rfl)))) fun K hK => ?_
      clear hT hpre hun hlit hoi
      go_simp
      exact hK _ _ ⟨(), fun _ _ => rfl, rfl, sc0, sc1, pc0, pc1, HB⟩
    · have hlit : (regOps Tryd.f4 5)[17]? = some ({ dst := some 61, op := Op.call { callee := Callee.value (Operand.func 12), args := #[Operand.tmp 59, Operand.tmp 60], argTypes := #[3, 3] }, type := 24, pos := "law.go:58", after := #[{ on := 15, ground := Ground.data }, { on := 16, ground := Ground.data }, { on := 13, ground := Ground.chain }, { on := 13, ground := Ground.guard }], guard := some (13, true) }) := by kernel_rfl
      obtain rfl := Option.some.inj (hlit.symm.trans hoi)
      have r59 : b.tmps.getD 59 undef = (.int .i64 aa) := rd (hT.at 15 (by kernel_rfl) (pre_of hpre 15 (by kernel_rfl)))
      have r60 : b.tmps.getD 60 undef = (.int .i64 bb) := rd (hT.at 16 (by kernel_rfl) (pre_of hpre 16 (by kernel_rfl)))
      refine op_go hoi (want_yes rfl (d := 57) (by kernel_rfl) (hT.at 13 (by kernel_rfl) (pre_of hpre 13 (by kernel_rfl)))) fun K hK => ?_
      clear hT hpre hun hlit hoi
      go_simp
      go_at_call 12
      refine (m4 _).mono ?_; rintro e w2 ⟨rfl, hb⟩; replace sc0 := ck hb (a := ⟨ks, 0, none⟩) (v := .int .i64 s0) (by go_simp); replace sc1 := ck hb (a := ⟨ks, 1, none⟩) (v := .int .u64 s1) (by go_simp); replace pc0 := ck hb (a := ⟨kp, 0, none⟩) (v := .int .i64 p0) (by go_simp); replace pc1 := ck hb (a := ⟨kp, 1, none⟩) (v := .int .u64 p1) (by go_simp); replace HB : Below W.heap.size W w2 := bt HB hb; clear hb
      exact hK _ _ ⟨(), fun _ _ => rfl, rfl, sc0, sc1, pc0, pc1, HB⟩
    · have hlit : (regOps Tryd.f4 5)[18]? = some ({ dst := some 62, op := Op.binOp BinOp.eql 24 (Operand.tmp 58) (Operand.tmp 61) 24, type := 4, pos := "law.go:58", after := #[{ on := 14, ground := Ground.data }, { on := 17, ground := Ground.data }, { on := 13, ground := Ground.guard }], guard := some (13, true) }) := by kernel_rfl
      obtain rfl := Option.some.inj (hlit.symm.trans hoi)
      have r58 : b.tmps.getD 58 undef = (.agg #[.int .i64 p0, .int .u64 p1]) := rd (hT.at 14 (by kernel_rfl) (pre_of hpre 14 (by kernel_rfl)))
      have r61 : b.tmps.getD 61 undef = (.agg #[.int .i64 p0, .int .u64 p1]) := rd (hT.at 17 (by kernel_rfl) (pre_of hpre 17 (by kernel_rfl)))
      refine op_go hoi (want_yes rfl (d := 57) (by kernel_rfl) (hT.at 13 (by kernel_rfl) (pre_of hpre 13 (by kernel_rfl)))) fun K hK => ?_
      clear hT hpre hun hlit hoi
      go_simp
      exact hK _ _ ⟨(), fun _ _ => rfl, rfl, sc0, sc1, pc0, pc1, HB⟩
    · have hlit : (regOps Tryd.f4 5)[19]? = some ({ dst := some 63, op := Op.pick (Operand.tmp 57) (Operand.tmp 62) (Operand.const (Value.bool false)), type := 4, pos := "law.go:58", after := #[{ on := 13, ground := Ground.data }, { on := 18, ground := Ground.data }], guard := none }) := by kernel_rfl
      obtain rfl := Option.some.inj (hlit.symm.trans hoi)
      have r57 : b.tmps.getD 57 undef = (.bool true) := rd (hT.at 13 (by kernel_rfl) (pre_of hpre 13 (by kernel_rfl)))
      have r62 : b.tmps.getD 62 undef = (.bool true) := rd (hT.at 18 (by kernel_rfl) (pre_of hpre 18 (by kernel_rfl)))
      refine op_go hoi (want_all rfl) fun K hK => ?_
      clear hT hpre hun hlit hoi
      go_simp
      exact hK _ _ ⟨(), fun _ _ => rfl, rfl, sc0, sc1, pc0, pc1, HB⟩
    · have hlit : (regOps Tryd.f4 5)[20]? = some ({ dst := some 64, op := Op.move (Operand.tmp 63), type := 4, pos := "law.go:58", after := #[{ on := 19, ground := Ground.data }, { on := 17, ground := Ground.chain }], guard := none }) := by kernel_rfl
      obtain rfl := Option.some.inj (hlit.symm.trans hoi)
      have r63 : b.tmps.getD 63 undef = (.bool true) := rd (hT.at 19 (by kernel_rfl) (pre_of hpre 19 (by kernel_rfl)))
      refine op_go hoi (want_all rfl) fun K hK => ?_
      clear hT hpre hun hlit hoi
      go_simp
      exact hK _ _ ⟨(), fun _ _ => rfl, rfl, sc0, sc1, pc0, pc1, HB⟩
    · have hlit : (regOps Tryd.f4 5)[21]? = some ({ dst := some 65, op := Op.move (Operand.tmp 0), type := 3, pos := "law.go:58", after := #[{ on := 20, ground := Ground.guard }], guard := some (20, true) }) := by kernel_rfl
      obtain rfl := Option.some.inj (hlit.symm.trans hoi)
      have r0 : b.tmps.getD 0 undef = (.int .i64 aa) := rd ((hT.old 0 (by kernel_rfl)).trans t0)
      refine op_go hoi (want_yes rfl (d := 64) (by kernel_rfl) (hT.at 20 (by kernel_rfl) (pre_of hpre 20 (by kernel_rfl)))) fun K hK => ?_
      clear hT hpre hun hlit hoi
      go_simp
      exact hK _ _ ⟨(), fun _ _ => rfl, rfl, sc0, sc1, pc0, pc1, HB⟩
    · have hlit : (regOps Tryd.f4 5)[22]? = some ({ dst := some 66, op := Op.move (Operand.tmp 1), type := 3, pos := "law.go:58", after := #[{ on := 20, ground := Ground.guard }], guard := some (20, true) }) := by kernel_rfl
      obtain rfl := Option.some.inj (hlit.symm.trans hoi)
      have r1 : b.tmps.getD 1 undef = (.int .i64 bb) := rd ((hT.old 1 (by kernel_rfl)).trans t1)
      refine op_go hoi (want_yes rfl (d := 64) (by kernel_rfl) (hT.at 20 (by kernel_rfl) (pre_of hpre 20 (by kernel_rfl)))) fun K hK => ?_
      clear hT hpre hun hlit hoi
      go_simp
      exact hK _ _ ⟨(), fun _ _ => rfl, rfl, sc0, sc1, pc0, pc1, HB⟩
    · have hlit : (regOps Tryd.f4 5)[23]? = some ({ dst := some 67, op := Op.call { callee := Callee.value (Operand.func 12), args := #[Operand.tmp 65, Operand.tmp 66], argTypes := #[3, 3] }, type := 24, pos := "law.go:58", after := #[{ on := 21, ground := Ground.data }, { on := 22, ground := Ground.data }, { on := 20, ground := Ground.chain }, { on := 20, ground := Ground.guard }], guard := some (20, true) }) := by kernel_rfl
      obtain rfl := Option.some.inj (hlit.symm.trans hoi)
      have r65 : b.tmps.getD 65 undef = (.int .i64 aa) := rd (hT.at 21 (by kernel_rfl) (pre_of hpre 21 (by kernel_rfl)))
      have r66 : b.tmps.getD 66 undef = (.int .i64 bb) := rd (hT.at 22 (by kernel_rfl) (pre_of hpre 22 (by kernel_rfl)))
      refine op_go hoi (want_yes rfl (d := 64) (by kernel_rfl) (hT.at 20 (by kernel_rfl) (pre_of hpre 20 (by kernel_rfl)))) fun K hK => ?_
      clear hT hpre hun hlit hoi
      go_simp
      go_at_call 12
      refine (m4 _).mono ?_; rintro e w2 ⟨rfl, hb⟩; replace sc0 := ck hb (a := ⟨ks, 0, none⟩) (v := .int .i64 s0) (by go_simp); replace sc1 := ck hb (a := ⟨ks, 1, none⟩) (v := .int .u64 s1) (by go_simp); replace pc0 := ck hb (a := ⟨kp, 0, none⟩) (v := .int .i64 p0) (by go_simp); replace pc1 := ck hb (a := ⟨kp, 1, none⟩) (v := .int .u64 p1) (by go_simp); replace HB : Below W.heap.size W w2 := bt HB hb; clear hb
      exact hK _ _ ⟨(), fun _ _ => rfl, rfl, sc0, sc1, pc0, pc1, HB⟩
    · have hlit : (regOps Tryd.f4 5)[24]? = some ({ dst := some 68, op := Op.call { callee := Callee.value (Operand.func 15), args := #[Operand.tmp 67], argTypes := #[24] }, type := 3, pos := "law.go:58", after := #[{ on := 23, ground := Ground.data }, { on := 23, ground := Ground.chain }, { on := 20, ground := Ground.guard }], guard := some (20, true) }) := by kernel_rfl
      obtain rfl := Option.some.inj (hlit.symm.trans hoi)
      have r67 : b.tmps.getD 67 undef = (.agg #[.int .i64 p0, .int .u64 p1]) := rd (hT.at 23 (by kernel_rfl) (pre_of hpre 23 (by kernel_rfl)))
      refine op_go hoi (want_yes rfl (d := 64) (by kernel_rfl) (hT.at 20 (by kernel_rfl) (pre_of hpre 20 (by kernel_rfl)))) fun K hK => ?_
      clear hT hpre hun hlit hoi
      go_simp
      go_at_call 15
      refine (m5 _).mono ?_; rintro e w2 ⟨rfl, hb⟩; replace sc0 := ck hb (a := ⟨ks, 0, none⟩) (v := .int .i64 s0) (by go_simp); replace sc1 := ck hb (a := ⟨ks, 1, none⟩) (v := .int .u64 s1) (by go_simp); replace pc0 := ck hb (a := ⟨kp, 0, none⟩) (v := .int .i64 p0) (by go_simp); replace pc1 := ck hb (a := ⟨kp, 1, none⟩) (v := .int .u64 p1) (by go_simp); replace HB : Below W.heap.size W w2 := bt HB hb; clear hb
      exact hK _ _ ⟨(), fun _ _ => rfl, rfl, sc0, sc1, pc0, pc1, HB⟩
    · have hlit : (regOps Tryd.f4 5)[25]? = some ({ dst := some 69, op := Op.binOp BinOp.eql 3 (Operand.tmp 68) (Operand.const (Value.int IntKind.i64 0)) 3, type := 4, pos := "law.go:58", after := #[{ on := 24, ground := Ground.data }, { on := 20, ground := Ground.guard }], guard := some (20, true) }) := by kernel_rfl
      obtain rfl := Option.some.inj (hlit.symm.trans hoi)
      have r68 : b.tmps.getD 68 undef = (.int .i64 sg) := rd (hT.at 24 (by kernel_rfl) (pre_of hpre 24 (by kernel_rfl)))
      refine op_go hoi (want_yes rfl (d := 64) (by kernel_rfl) (hT.at 20 (by kernel_rfl) (pre_of hpre 20 (by kernel_rfl)))) fun K hK => ?_
      clear hT hpre hun hlit hoi
      go_simp
      exact hK _ _ ⟨(), fun _ _ => rfl, rfl, sc0, sc1, pc0, pc1, HB⟩
    · have hlit : (regOps Tryd.f4 5)[26]? = some ({ dst := some 70, op := Op.move (Operand.tmp 0), type := 3, pos := "law.go:58", after := #[{ on := 20, ground := Ground.guard }], guard := some (20, true) }) := by kernel_rfl
      obtain rfl := Option.some.inj (hlit.symm.trans hoi)
      have r0 : b.tmps.getD 0 undef = (.int .i64 aa) := rd ((hT.old 0 (by kernel_rfl)).trans t0)
      refine op_go hoi (want_yes rfl (d := 64) (by kernel_rfl) (hT.at 20 (by kernel_rfl) (pre_of hpre 20 (by kernel_rfl)))) fun K hK => ?_
      clear hT hpre hun hlit hoi
      go_simp
      exact hK _ _ ⟨(), fun _ _ => rfl, rfl, sc0, sc1, pc0, pc1, HB⟩
    · have hlit : (regOps Tryd.f4 5)[27]? = some ({ dst := some 71, op := Op.binOp BinOp.eql 3 (Operand.tmp 70) (Operand.const (Value.int IntKind.i64 0)) 3, type := 4, pos := "law.go:58", after := #[{ on := 26, ground := Ground.data }, { on := 20, ground := Ground.guard }], guard := some (20, true) }) := by kernel_rfl
      obtain rfl := Option.some.inj (hlit.symm.trans hoi)
      have r70 : b.tmps.getD 70 undef = (.int .i64 aa) := rd (hT.at 26 (by kernel_rfl) (pre_of hpre 26 (by kernel_rfl)))
      refine op_go hoi (want_yes rfl (d := 64) (by kernel_rfl) (hT.at 20 (by kernel_rfl) (pre_of hpre 20 (by kernel_rfl)))) fun K hK => ?_
      clear hT hpre hun hlit hoi
      go_simp
      exact hK _ _ ⟨(), fun _ _ => rfl, rfl, sc0, sc1, pc0, pc1, HB⟩
    · have hlit : (regOps Tryd.f4 5)[28]? = some ({ dst := some 72, op := Op.move (Operand.tmp 71), type := 4, pos := "law.go:58", after := #[{ on := 27, ground := Ground.data }, { on := 24, ground := Ground.chain }, { on := 20, ground := Ground.guard }], guard := some (20, true) }) := by kernel_rfl
      obtain rfl := Option.some.inj (hlit.symm.trans hoi)
      have r71 : b.tmps.getD 71 undef = (.bool false) := rd (hT.at 27 (by kernel_rfl) (pre_of hpre 27 (by kernel_rfl)))
      refine op_go hoi (want_yes rfl (d := 64) (by kernel_rfl) (hT.at 20 (by kernel_rfl) (pre_of hpre 20 (by kernel_rfl)))) fun K hK => ?_
      clear hT hpre hun hlit hoi
      go_simp
      exact hK _ _ ⟨(), fun _ _ => rfl, rfl, sc0, sc1, pc0, pc1, HB⟩
    · have hlit : (regOps Tryd.f4 5)[29]? = some ({ dst := some 73, op := Op.move (Operand.tmp 1), type := 3, pos := "law.go:58", after := #[{ on := 28, ground := Ground.guard }], guard := some (28, false) }) := by kernel_rfl
      obtain rfl := Option.some.inj (hlit.symm.trans hoi)
      have r1 : b.tmps.getD 1 undef = (.int .i64 bb) := rd ((hT.old 1 (by kernel_rfl)).trans t1)
      refine op_go hoi (want_yes rfl (d := 72) (by kernel_rfl) (hT.at 28 (by kernel_rfl) (pre_of hpre 28 (by kernel_rfl)))) fun K hK => ?_
      clear hT hpre hun hlit hoi
      go_simp
      exact hK _ _ ⟨(), fun _ _ => rfl, rfl, sc0, sc1, pc0, pc1, HB⟩
    · have hlit : (regOps Tryd.f4 5)[30]? = some ({ dst := some 74, op := Op.binOp BinOp.eql 3 (Operand.tmp 73) (Operand.const (Value.int IntKind.i64 0)) 3, type := 4, pos := "law.go:58", after := #[{ on := 29, ground := Ground.data }, { on := 28, ground := Ground.guard }], guard := some (28, false) }) := by kernel_rfl
      obtain rfl := Option.some.inj (hlit.symm.trans hoi)
      have r73 : b.tmps.getD 73 undef = (.int .i64 bb) := rd (hT.at 29 (by kernel_rfl) (pre_of hpre 29 (by kernel_rfl)))
      refine op_go hoi (want_yes rfl (d := 72) (by kernel_rfl) (hT.at 28 (by kernel_rfl) (pre_of hpre 28 (by kernel_rfl)))) fun K hK => ?_
      clear hT hpre hun hlit hoi
      go_simp
      exact hK _ _ ⟨(), fun _ _ => rfl, rfl, sc0, sc1, pc0, pc1, HB⟩
    · have hlit : (regOps Tryd.f4 5)[31]? = some ({ dst := some 75, op := Op.pick (Operand.tmp 72) (Operand.const (Value.bool true)) (Operand.tmp 74), type := 4, pos := "law.go:58", after := #[{ on := 28, ground := Ground.data }, { on := 30, ground := Ground.data }, { on := 20, ground := Ground.guard }], guard := some (20, true) }) := by kernel_rfl
      obtain rfl := Option.some.inj (hlit.symm.trans hoi)
      have r72 : b.tmps.getD 72 undef = (.bool false) := rd (hT.at 28 (by kernel_rfl) (pre_of hpre 28 (by kernel_rfl)))
      have r74 : b.tmps.getD 74 undef = (.bool true) := rd (hT.at 30 (by kernel_rfl) (pre_of hpre 30 (by kernel_rfl)))
      refine op_go hoi (want_yes rfl (d := 64) (by kernel_rfl) (hT.at 20 (by kernel_rfl) (pre_of hpre 20 (by kernel_rfl)))) fun K hK => ?_
      clear hT hpre hun hlit hoi
      go_simp
      exact hK _ _ ⟨(), fun _ _ => rfl, rfl, sc0, sc1, pc0, pc1, HB⟩
    · have hlit : (regOps Tryd.f4 5)[32]? = some ({ dst := some 76, op := Op.binOp BinOp.eql 4 (Operand.tmp 69) (Operand.tmp 75) 4, type := 4, pos := "law.go:58", after := #[{ on := 25, ground := Ground.data }, { on := 31, ground := Ground.data }, { on := 20, ground := Ground.guard }], guard := some (20, true) }) := by kernel_rfl
      obtain rfl := Option.some.inj (hlit.symm.trans hoi)
      have r69 : b.tmps.getD 69 undef = (.bool true) := rd (hT.at 25 (by kernel_rfl) (pre_of hpre 25 (by kernel_rfl)))
      have r75 : b.tmps.getD 75 undef = (.bool true) := rd (hT.at 31 (by kernel_rfl) (pre_of hpre 31 (by kernel_rfl)))
      refine op_go hoi (want_yes rfl (d := 64) (by kernel_rfl) (hT.at 20 (by kernel_rfl) (pre_of hpre 20 (by kernel_rfl)))) fun K hK => ?_
      clear hT hpre hun hlit hoi
      go_simp
      exact hK _ _ ⟨(), fun _ _ => rfl, rfl, sc0, sc1, pc0, pc1, HB⟩
    · have hlit : (regOps Tryd.f4 5)[33]? = some ({ dst := some 77, op := Op.pick (Operand.tmp 64) (Operand.tmp 76) (Operand.const (Value.bool false)), type := 4, pos := "law.go:58", after := #[{ on := 20, ground := Ground.data }, { on := 32, ground := Ground.data }], guard := none }) := by kernel_rfl
      obtain rfl := Option.some.inj (hlit.symm.trans hoi)
      have r64 : b.tmps.getD 64 undef = (.bool true) := rd (hT.at 20 (by kernel_rfl) (pre_of hpre 20 (by kernel_rfl)))
      have r76 : b.tmps.getD 76 undef = (.bool true) := rd (hT.at 32 (by kernel_rfl) (pre_of hpre 32 (by kernel_rfl)))
      refine op_go hoi (want_all rfl) fun K hK => ?_
      clear hT hpre hun hlit hoi
      go_simp
      exact hK _ _ ⟨(), fun _ _ => rfl, rfl, sc0, sc1, pc0, pc1, HB⟩
    · have hlit : (regOps Tryd.f4 5)[34]? = some ({ dst := some 78, op := Op.move (Operand.tmp 77), type := 4, pos := "law.go:58", after := #[{ on := 33, ground := Ground.data }, { on := 28, ground := Ground.chain }], guard := none }) := by kernel_rfl
      obtain rfl := Option.some.inj (hlit.symm.trans hoi)
      have r77 : b.tmps.getD 77 undef = (.bool true) := rd (hT.at 33 (by kernel_rfl) (pre_of hpre 33 (by kernel_rfl)))
      refine op_go hoi (want_all rfl) fun K hK => ?_
      clear hT hpre hun hlit hoi
      go_simp
      exact hK _ _ ⟨(), fun _ _ => rfl, rfl, sc0, sc1, pc0, pc1, HB⟩
    · have hlit : (regOps Tryd.f4 5)[35]? = some ({ dst := some 79, op := Op.call { callee := Callee.value (Operand.func 9), args := #[], argTypes := #[] }, type := 4, pos := "law.go:58", after := #[{ on := 34, ground := Ground.chain }, { on := 34, ground := Ground.guard }], guard := some (34, true) }) := by kernel_rfl
      obtain rfl := Option.some.inj (hlit.symm.trans hoi)
      refine op_go hoi (want_yes rfl (d := 78) (by kernel_rfl) (hT.at 34 (by kernel_rfl) (pre_of hpre 34 (by kernel_rfl)))) fun K hK => ?_
      clear hT hpre hun hlit hoi
      go_simp
      go_at_call 9
      refine (awake9 _ (tab_below htab HB)).mono ?_; rintro e w2 ⟨rfl, hb⟩; replace sc0 := ck hb (a := ⟨ks, 0, none⟩) (v := .int .i64 s0) (by go_simp); replace sc1 := ck hb (a := ⟨ks, 1, none⟩) (v := .int .u64 s1) (by go_simp); replace pc0 := ck hb (a := ⟨kp, 0, none⟩) (v := .int .i64 p0) (by go_simp); replace pc1 := ck hb (a := ⟨kp, 1, none⟩) (v := .int .u64 p1) (by go_simp); replace HB : Below W.heap.size W w2 := bt HB hb; clear hb
      exact hK _ _ ⟨(), fun _ _ => rfl, rfl, sc0, sc1, pc0, pc1, HB⟩
    · have hlit : (regOps Tryd.f4 5)[36]? = some ({ dst := some 80, op := Op.pick (Operand.tmp 78) (Operand.tmp 79) (Operand.const (Value.bool false)), type := 4, pos := "law.go:58", after := #[{ on := 34, ground := Ground.data }, { on := 35, ground := Ground.data }], guard := none }) := by kernel_rfl
      obtain rfl := Option.some.inj (hlit.symm.trans hoi)
      have r78 : b.tmps.getD 78 undef = (.bool true) := rd (hT.at 34 (by kernel_rfl) (pre_of hpre 34 (by kernel_rfl)))
      have r79 : b.tmps.getD 79 undef = (.bool true) := rd (hT.at 35 (by kernel_rfl) (pre_of hpre 35 (by kernel_rfl)))
      refine op_go hoi (want_all rfl) fun K hK => ?_
      clear hT hpre hun hlit hoi
      go_simp
      exact hK _ _ ⟨(), fun _ _ => rfl, rfl, sc0, sc1, pc0, pc1, HB⟩
    · have hlit : (regOps Tryd.f4 5)[37]? = some ({ dst := some 6, op := Op.assign (Operand.tmp 80), type := 4, pos := "law.go:58", after := #[{ on := 36, ground := Ground.data }, { on := 35, ground := Ground.chain }, { on := 0, ground := Ground.phase }, { on := 1, ground := Ground.phase }, { on := 2, ground := Ground.phase }, { on := 3, ground := Ground.phase }, { on := 4, ground := Ground.phase }, { on := 5, ground := Ground.phase }, { on := 6, ground := Ground.phase }, { on := 7, ground := Ground.phase }, { on := 8, ground := Ground.phase }, { on := 9, ground := Ground.phase }, { on := 10, ground := Ground.phase }, { on := 11, ground := Ground.phase }, { on := 12, ground := Ground.phase }, { on := 13, ground := Ground.phase }, { on := 14, ground := Ground.phase }, { on := 15, ground := Ground.phase }, { on := 16, ground := Ground.phase }, { on := 17, ground := Ground.phase }, { on := 18, ground := Ground.phase }, { on := 19, ground := Ground.phase }, { on := 20, ground := Ground.phase }, { on := 21, ground := Ground.phase }, { on := 22, ground := Ground.phase }, { on := 23, ground := Ground.phase }, { on := 24, ground := Ground.phase }, { on := 25, ground := Ground.phase }, { on := 26, ground := Ground.phase }, { on := 27, ground := Ground.phase }, { on := 28, ground := Ground.phase }, { on := 29, ground := Ground.phase }, { on := 30, ground := Ground.phase }, { on := 31, ground := Ground.phase }, { on := 32, ground := Ground.phase }, { on := 33, ground := Ground.phase }, { on := 34, ground := Ground.phase }, { on := 35, ground := Ground.phase }, { on := 36, ground := Ground.phase }], guard := none }) := by kernel_rfl
      obtain rfl := Option.some.inj (hlit.symm.trans hoi)
      have r80 : b.tmps.getD 80 undef = (.bool true) := rd (hT.at 36 (by kernel_rfl) (pre_of hpre 36 (by kernel_rfl)))
      refine op_go hoi (want_all rfl) fun K hK => ?_
      clear hT hpre hun hlit hoi
      go_simp
      exact hK _ _ ⟨(), fun _ _ => rfl, rfl, sc0, sc1, pc0, pc1, HB⟩
  · intro g b w' hT hS
    rw [hT.all ht]
    have hn : (regOps Tryd.f4 5).size = 38 := by kernel_rfl
    rw [hn]
    exact he w' hS

/-- What each operation of the region leaves. -/
def region4_5_10V (aa bb cc bc p0 p1 s0 s1 sg : Int) : Nat → Value
  | 0 => .bool true
  | 1 => .bool true
  | 2 => .bool true
  | 3 => .bool true
  | 4 => .bool true
  | 5 => .agg #[.int .i64 s0, .int .u64 s1]
  | 6 => .int .i64 aa
  | 7 => .int .i64 bb
  | 8 => .int .i64 cc
  | 9 => .int .i64 bc
  | 10 => .agg #[.int .i64 s0, .int .u64 s1]
  | 11 => .bool true
  | 12 => .bool true
  | 13 => .bool true
  | 14 => .agg #[.int .i64 p0, .int .u64 p1]
  | 15 => .int .i64 aa
  | 16 => .int .i64 bb
  | 17 => .agg #[.int .i64 p0, .int .u64 p1]
  | 18 => .bool true
  | 19 => .bool true
  | 20 => .bool true
  | 21 => .int .i64 aa
  | 22 => .int .i64 bb
  | 23 => .agg #[.int .i64 p0, .int .u64 p1]
  | 24 => .int .i64 sg
  | 25 => .bool true
  | 26 => .int .i64 aa
  | 27 => .bool true
  | 28 => .bool true
  | 29 => undef
  | 30 => undef
  | 31 => .bool true
  | 32 => .bool true
  | 33 => .bool true
  | 34 => .bool true
  | 35 => .bool true
  | 36 => .bool true
  | 37 => .bool true
  | _ => undef

set_option maxHeartbeats 4000000 in
set_option maxRecDepth 100000 in
theorem region4_5_10 (aa bb cc bc p0 p1 s0 s1 sg : Int) (ks kp : Nat) (W : World) (htab : Tab W) (m3 : ∀ w : World, Calls Tryd.prog 12 #[.int .i64 aa, .int .i64 bc] w fun e w' => e = .returned (.agg #[.int .i64 s0, .int .u64 s1]) ∧ Below w.heap.size w w') (m4 : ∀ w : World, Calls Tryd.prog 12 #[.int .i64 aa, .int .i64 bb] w fun e w' => e = .returned (.agg #[.int .i64 p0, .int .u64 p1]) ∧ Below w.heap.size w w') (m5 : ∀ w : World, Calls Tryd.prog 15 #[.agg #[.int .i64 p0, .int .u64 p1]] w fun e w' => e = .returned (.int .i64 sg) ∧ Below w.heap.size w w') (e1 : (sg == 0) = true) (e2 : (aa == 0) = true) (e3 : (bb == 0) = false) (e4 : IntKind.i64.wrap (bb + cc) = bc) {id : Nat} {ops : Array Oper} {Q : Exit → Act → World → Prop} {a : Act} {w : World}
    (ho : ops = (regOps Tryd.f4 5)) (hsz : a.tmps.size = 81) (t0 : a.tmps[0]? = some (.int .i64 aa)) (t1 : a.tmps[1]? = some (.int .i64 bb)) (t2 : a.tmps[2]? = some (.int .i64 cc)) (t7 : a.tmps[7]? = some (.pointer (some ⟨ks, 0, none⟩))) (t9 : a.tmps[9]? = some (.pointer (some ⟨kp, 0, none⟩))) (t8 : a.tmps[8]? = some (.bool true)) (t10 : a.tmps[10]? = some (.bool true))
    (h0 : w.drew.cell? ⟨ks, 0, none⟩ = some (.int .i64 s0) ∧ w.drew.cell? ⟨ks, 1, none⟩ = some (.int .u64 s1) ∧ w.drew.cell? ⟨kp, 0, none⟩ = some (.int .i64 p0) ∧ w.drew.cell? ⟨kp, 1, none⟩ = some (.int .u64 p1) ∧ Below W.heap.size W w.drew)
    (he : ∀ w', w'.cell? ⟨ks, 0, none⟩ = some (.int .i64 s0) ∧ w'.cell? ⟨ks, 1, none⟩ = some (.int .u64 s1) ∧ w'.cell? ⟨kp, 0, none⟩ = some (.int .i64 p0) ∧ w'.cell? ⟨kp, 1, none⟩ = some (.int .u64 p1) ∧ Below W.heap.size W w' → Q .normal ⟨((((((((((((((((((((((((((((((((((((((a.tmps.setIfInBounds 44 (.bool true)).setIfInBounds 45 (.bool true)).setIfInBounds 46 (.bool true)).setIfInBounds 47 (.bool true)).setIfInBounds 48 (.bool true)).setIfInBounds 49 (.agg #[.int .i64 s0, .int .u64 s1])).setIfInBounds 50 (.int .i64 aa)).setIfInBounds 51 (.int .i64 bb)).setIfInBounds 52 (.int .i64 cc)).setIfInBounds 53 (.int .i64 bc)).setIfInBounds 54 (.agg #[.int .i64 s0, .int .u64 s1])).setIfInBounds 55 (.bool true)).setIfInBounds 56 (.bool true)).setIfInBounds 57 (.bool true)).setIfInBounds 58 (.agg #[.int .i64 p0, .int .u64 p1])).setIfInBounds 59 (.int .i64 aa)).setIfInBounds 60 (.int .i64 bb)).setIfInBounds 61 (.agg #[.int .i64 p0, .int .u64 p1])).setIfInBounds 62 (.bool true)).setIfInBounds 63 (.bool true)).setIfInBounds 64 (.bool true)).setIfInBounds 65 (.int .i64 aa)).setIfInBounds 66 (.int .i64 bb)).setIfInBounds 67 (.agg #[.int .i64 p0, .int .u64 p1])).setIfInBounds 68 (.int .i64 sg)).setIfInBounds 69 (.bool true)).setIfInBounds 70 (.int .i64 aa)).setIfInBounds 71 (.bool true)).setIfInBounds 72 (.bool true)).setIfInBounds 73 (undef)).setIfInBounds 74 (undef)).setIfInBounds 75 (.bool true)).setIfInBounds 76 (.bool true)).setIfInBounds 77 (.bool true)).setIfInBounds 78 (.bool true)).setIfInBounds 79 (.bool true)).setIfInBounds 80 (.bool true)).setIfInBounds 6 (.bool true)), a.defers⟩ w') :
    (Code.region id ops true).wp Tryd.prog Q a w := by
  have ht : tidy (regOps Tryd.f4 5) a.tmps.size = true := by rw [hsz]; kernel_rfl
  refine region_tab (G := Unit) (fun _ => (region4_5_10V aa bb cc bc p0 p1 s0 s1 sg  )) (fun _ _ w' => w'.cell? ⟨ks, 0, none⟩ = some (.int .i64 s0) ∧ w'.cell? ⟨ks, 1, none⟩ = some (.int .u64 s1) ∧ w'.cell? ⟨kp, 0, none⟩ = some (.int .i64 p0) ∧ w'.cell? ⟨kp, 1, none⟩ = some (.int .u64 p1) ∧ Below W.heap.size W w') () (by kernel_rfl) ho ht h0 ?_ ?_
  · intro i o hoi g L b w' hun hpre hT hS
    clear he h0 ho hsz ht
    have hi : i < (regOps Tryd.f4 5).size := (Array.getElem?_eq_some_iff.1 hoi).1
    rw [show (regOps Tryd.f4 5).size = 38 by kernel_rfl] at hi
    obtain ⟨sc0, sc1, pc0, pc1, HB⟩ := hS
    have hcases : i = 0 ∨ i = 1 ∨ i = 2 ∨ i = 3 ∨ i = 4 ∨ i = 5 ∨ i = 6 ∨ i = 7 ∨ i = 8 ∨ i = 9 ∨ i = 10 ∨ i = 11 ∨ i = 12 ∨ i = 13 ∨ i = 14 ∨ i = 15 ∨ i = 16 ∨ i = 17 ∨ i = 18 ∨ i = 19 ∨ i = 20 ∨ i = 21 ∨ i = 22 ∨ i = 23 ∨ i = 24 ∨ i = 25 ∨ i = 26 ∨ i = 27 ∨ i = 28 ∨ i = 29 ∨ i = 30 ∨ i = 31 ∨ i = 32 ∨ i = 33 ∨ i = 34 ∨ i = 35 ∨ i = 36 ∨ i = 37 := by omega
    rcases hcases with rfl | rfl | rfl | rfl | rfl | rfl | rfl | rfl | rfl | rfl | rfl | rfl | rfl | rfl | rfl | rfl | rfl | rfl | rfl | rfl | rfl | rfl | rfl | rfl | rfl | rfl | rfl | rfl | rfl | rfl | rfl | rfl | rfl | rfl | rfl | rfl | rfl | rfl
    · have hlit : (regOps Tryd.f4 5)[0]? = some ({ dst := some 44, op := Op.move (Operand.tmp 8), type := 4, pos := "law.go:58", after := #[], guard := none }) := by kernel_rfl
      obtain rfl := Option.some.inj (hlit.symm.trans hoi)
      have r8 : b.tmps.getD 8 undef = (.bool true) := rd ((hT.old 8 (by kernel_rfl)).trans t8)
      refine op_go hoi (want_all rfl) fun K hK => ?_
      clear hT hpre hun hlit hoi
      go_simp
      exact hK _ _ ⟨(), fun _ _ => rfl, rfl, sc0, sc1, pc0, pc1, HB⟩
    · have hlit : (regOps Tryd.f4 5)[1]? = some ({ dst := some 45, op := Op.move (Operand.tmp 44), type := 4, pos := "law.go:58", after := #[{ on := 0, ground := Ground.data }], guard := none }) := by kernel_rfl
      obtain rfl := Option.some.inj (hlit.symm.trans hoi)
      have r44 : b.tmps.getD 44 undef = (.bool true) := rd (hT.at 0 (by kernel_rfl) (pre_of hpre 0 (by kernel_rfl)))
      refine op_go hoi (want_all rfl) fun K hK => ?_
      clear hT hpre hun hlit hoi
      go_simp
      exact hK _ _ ⟨(), fun _ _ => rfl, rfl, sc0, sc1, pc0, pc1, HB⟩
    · have hlit : (regOps Tryd.f4 5)[2]? = some ({ dst := some 46, op := Op.move (Operand.tmp 10), type := 4, pos := "law.go:58", after := #[{ on := 1, ground := Ground.guard }], guard := some (1, true) }) := by kernel_rfl
      obtain rfl := Option.some.inj (hlit.symm.trans hoi)
      have r10 : b.tmps.getD 10 undef = (.bool true) := rd ((hT.old 10 (by kernel_rfl)).trans t10)
      refine op_go hoi (want_yes rfl (d := 45) (by kernel_rfl) (hT.at 1 (by kernel_rfl) (pre_of hpre 1 (by kernel_rfl)))) fun K hK => ?_
      clear hT hpre hun hlit hoi
      go_simp
      exact hK _ _ ⟨(), fun _ _ => rfl, rfl, sc0, sc1, pc0, pc1, HB⟩
    · have hlit : (regOps Tryd.f4 5)[3]? = some ({ dst := some 47, op := Op.pick (Operand.tmp 45) (Operand.tmp 46) (Operand.const (Value.bool false)), type := 4, pos := "law.go:58", after := #[{ on := 1, ground := Ground.data }, { on := 2, ground := Ground.data }], guard := none }) := by kernel_rfl
      obtain rfl := Option.some.inj (hlit.symm.trans hoi)
      have r45 : b.tmps.getD 45 undef = (.bool true) := rd (hT.at 1 (by kernel_rfl) (pre_of hpre 1 (by kernel_rfl)))
      have r46 : b.tmps.getD 46 undef = (.bool true) := rd (hT.at 2 (by kernel_rfl) (pre_of hpre 2 (by kernel_rfl)))
      refine op_go hoi (want_all rfl) fun K hK => ?_
      clear hT hpre hun hlit hoi
      go_simp
      exact hK _ _ ⟨(), fun _ _ => rfl, rfl, sc0, sc1, pc0, pc1, HB⟩
    · have hlit : (regOps Tryd.f4 5)[4]? = some ({ dst := some 48, op := Op.move (Operand.tmp 47), type := 4, pos := "law.go:58", after := #[{ on := 3, ground := Ground.data }, { on := 1, ground := Ground.chain }], guard := none }) := by kernel_rfl
      obtain rfl := Option.some.inj (hlit.symm.trans hoi)
      have r47 : b.tmps.getD 47 undef = (.bool true) := rd (hT.at 3 (by kernel_rfl) (pre_of hpre 3 (by kernel_rfl)))
      refine op_go hoi (want_all rfl) fun K hK => ?_
      clear hT hpre hun hlit hoi
      go_simp
      exact hK _ _ ⟨(), fun _ _ => rfl, rfl, sc0, sc1, pc0, pc1, HB⟩
    · have hlit : (regOps Tryd.f4 5)[5]? = some ({ dst := some 49, op := Op.load 24 (Operand.tmp 7), type := 24, pos := "law.go:58", after := #[{ on := 4, ground := Ground.guard }], guard := some (4, true) }) := by kernel_rfl
      obtain rfl := Option.some.inj (hlit.symm.trans hoi)
      have r7 : b.tmps.getD 7 undef = (.pointer (some ⟨ks, 0, none⟩)) := rd ((hT.old 7 (by kernel_rfl)).trans t7)
      refine op_go hoi (want_yes rfl (d := 48) (by kernel_rfl) (hT.at 4 (by kernel_rfl) (pre_of hpre 4 (by kernel_rfl)))) fun K hK => ?_
      clear hT hpre hun hlit hoi
      go_simp
      exact hK _ _ ⟨(), fun _ _ => rfl, rfl, sc0, sc1, pc0, pc1, HB⟩
    · have hlit : (regOps Tryd.f4 5)[6]? = some ({ dst := some 50, op := Op.move (Operand.tmp 0), type := 3, pos := "law.go:58", after := #[{ on := 4, ground := Ground.guard }], guard := some (4, true) }) := by kernel_rfl
      obtain rfl := Option.some.inj (hlit.symm.trans hoi)
      have r0 : b.tmps.getD 0 undef = (.int .i64 aa) := rd ((hT.old 0 (by kernel_rfl)).trans t0)
      refine op_go hoi (want_yes rfl (d := 48) (by kernel_rfl) (hT.at 4 (by kernel_rfl) (pre_of hpre 4 (by kernel_rfl)))) fun K hK => ?_
      clear hT hpre hun hlit hoi
      go_simp
      exact hK _ _ ⟨(), fun _ _ => rfl, rfl, sc0, sc1, pc0, pc1, HB⟩
    · have hlit : (regOps Tryd.f4 5)[7]? = some ({ dst := some 51, op := Op.move (Operand.tmp 1), type := 3, pos := "law.go:58", after := #[{ on := 4, ground := Ground.guard }], guard := some (4, true) }) := by kernel_rfl
      obtain rfl := Option.some.inj (hlit.symm.trans hoi)
      have r1 : b.tmps.getD 1 undef = (.int .i64 bb) := rd ((hT.old 1 (by kernel_rfl)).trans t1)
      refine op_go hoi (want_yes rfl (d := 48) (by kernel_rfl) (hT.at 4 (by kernel_rfl) (pre_of hpre 4 (by kernel_rfl)))) fun K hK => ?_
      clear hT hpre hun hlit hoi
      go_simp
      exact hK _ _ ⟨(), fun _ _ => rfl, rfl, sc0, sc1, pc0, pc1, HB⟩
    · have hlit : (regOps Tryd.f4 5)[8]? = some ({ dst := some 52, op := Op.move (Operand.tmp 2), type := 3, pos := "law.go:58", after := #[{ on := 4, ground := Ground.guard }], guard := some (4, true) }) := by kernel_rfl
      obtain rfl := Option.some.inj (hlit.symm.trans hoi)
      have r2 : b.tmps.getD 2 undef = (.int .i64 cc) := rd ((hT.old 2 (by kernel_rfl)).trans t2)
      refine op_go hoi (want_yes rfl (d := 48) (by kernel_rfl) (hT.at 4 (by kernel_rfl) (pre_of hpre 4 (by kernel_rfl)))) fun K hK => ?_
      clear hT hpre hun hlit hoi
      go_simp
      exact hK _ _ ⟨(), fun _ _ => rfl, rfl, sc0, sc1, pc0, pc1, HB⟩
    · have hlit : (regOps Tryd.f4 5)[9]? = some ({ dst := some 53, op := Op.binOp BinOp.add 3 (Operand.tmp 51) (Operand.tmp 52) 3, type := 3, pos := "law.go:58", after := #[{ on := 7, ground := Ground.data }, { on := 8, ground := Ground.data }, { on := 4, ground := Ground.guard }], guard := some (4, true) }) := by kernel_rfl
      obtain rfl := Option.some.inj (hlit.symm.trans hoi)
      have r51 : b.tmps.getD 51 undef = (.int .i64 bb) := rd (hT.at 7 (by kernel_rfl) (pre_of hpre 7 (by kernel_rfl)))
      have r52 : b.tmps.getD 52 undef = (.int .i64 cc) := rd (hT.at 8 (by kernel_rfl) (pre_of hpre 8 (by kernel_rfl)))
      refine op_go hoi (want_yes rfl (d := 48) (by kernel_rfl) (hT.at 4 (by kernel_rfl) (pre_of hpre 4 (by kernel_rfl)))) fun K hK => ?_
      clear hT hpre hun hlit hoi
      go_simp
      exact hK _ _ ⟨(), fun _ _ => rfl, rfl, sc0, sc1, pc0, pc1, HB⟩
    · have hlit : (regOps Tryd.f4 5)[10]? = some ({ dst := some 54, op := Op.call { callee := Callee.value (Operand.func 12), args := #[Operand.tmp 50, Operand.tmp 53], argTypes := #[3, 3] }, type := 24, pos := "law.go:58", after := #[{ on := 6, ground := Ground.data }, { on := 9, ground := Ground.data }, { on := 4, ground := Ground.chain }, { on := 4, ground := Ground.guard }], guard := some (4, true) }) := by kernel_rfl
      obtain rfl := Option.some.inj (hlit.symm.trans hoi)
      have r50 : b.tmps.getD 50 undef = (.int .i64 aa) := rd (hT.at 6 (by kernel_rfl) (pre_of hpre 6 (by kernel_rfl)))
      have r53 : b.tmps.getD 53 undef = (.int .i64 bc) := rd (hT.at 9 (by kernel_rfl) (pre_of hpre 9 (by kernel_rfl)))
      refine op_go hoi (want_yes rfl (d := 48) (by kernel_rfl) (hT.at 4 (by kernel_rfl) (pre_of hpre 4 (by kernel_rfl)))) fun K hK => ?_
      clear hT hpre hun hlit hoi
      go_simp
      go_at_call 12
      refine (m3 _).mono ?_; rintro e w2 ⟨rfl, hb⟩; replace sc0 := ck hb (a := ⟨ks, 0, none⟩) (v := .int .i64 s0) (by go_simp); replace sc1 := ck hb (a := ⟨ks, 1, none⟩) (v := .int .u64 s1) (by go_simp); replace pc0 := ck hb (a := ⟨kp, 0, none⟩) (v := .int .i64 p0) (by go_simp); replace pc1 := ck hb (a := ⟨kp, 1, none⟩) (v := .int .u64 p1) (by go_simp); replace HB : Below W.heap.size W w2 := bt HB hb; clear hb
      exact hK _ _ ⟨(), fun _ _ => rfl, rfl, sc0, sc1, pc0, pc1, HB⟩
    · have hlit : (regOps Tryd.f4 5)[11]? = some ({ dst := some 55, op := Op.binOp BinOp.eql 24 (Operand.tmp 49) (Operand.tmp 54) 24, type := 4, pos := "law.go:58", after := #[{ on := 5, ground := Ground.data }, { on := 10, ground := Ground.data }, { on := 4, ground := Ground.guard }], guard := some (4, true) }) := by kernel_rfl
      obtain rfl := Option.some.inj (hlit.symm.trans hoi)
      have r49 : b.tmps.getD 49 undef = (.agg #[.int .i64 s0, .int .u64 s1]) := rd (hT.at 5 (by kernel_rfl) (pre_of hpre 5 (by kernel_rfl)))
      have r54 : b.tmps.getD 54 undef = (.agg #[.int .i64 s0, .int .u64 s1]) := rd (hT.at 10 (by kernel_rfl) (pre_of hpre 10 (by kernel_rfl)))
      refine op_go hoi (want_yes rfl (d := 48) (by kernel_rfl) (hT.at 4 (by kernel_rfl) (pre_of hpre 4 (by kernel_rfl)))) fun K hK => ?_
      clear hT hpre hun hlit hoi
      go_simp
      exact hK _ _ ⟨(), fun _ _ => rfl, rfl, sc0, sc1, pc0, pc1, HB⟩
    · have hlit : (regOps Tryd.f4 5)[12]? = some ({ dst := some 56, op := Op.pick (Operand.tmp 48) (Operand.tmp 55) (Operand.const (Value.bool false)), type := 4, pos := "law.go:58", after := #[{ on := 4, ground := Ground.data }, { on := 11, ground := Ground.data }], guard := none }) := by kernel_rfl
      obtain rfl := Option.some.inj (hlit.symm.trans hoi)
      have r48 : b.tmps.getD 48 undef = (.bool true) := rd (hT.at 4 (by kernel_rfl) (pre_of hpre 4 (by kernel_rfl)))
      have r55 : b.tmps.getD 55 undef = (.bool true) := rd (hT.at 11 (by kernel_rfl) (pre_of hpre 11 (by kernel_rfl)))
      refine op_go hoi (want_all rfl) fun K hK => ?_
      clear hT hpre hun hlit hoi
      go_simp
      exact hK _ _ ⟨(), fun _ _ => rfl, rfl, sc0, sc1, pc0, pc1, HB⟩
    · have hlit : (regOps Tryd.f4 5)[13]? = some ({ dst := some 57, op := Op.move (Operand.tmp 56), type := 4, pos := "law.go:58", after := #[{ on := 12, ground := Ground.data }, { on := 10, ground := Ground.chain }], guard := none }) := by kernel_rfl
      obtain rfl := Option.some.inj (hlit.symm.trans hoi)
      have r56 : b.tmps.getD 56 undef = (.bool true) := rd (hT.at 12 (by kernel_rfl) (pre_of hpre 12 (by kernel_rfl)))
      refine op_go hoi (want_all rfl) fun K hK => ?_
      clear hT hpre hun hlit hoi
      go_simp
      exact hK _ _ ⟨(), fun _ _ => rfl, rfl, sc0, sc1, pc0, pc1, HB⟩
    · have hlit : (regOps Tryd.f4 5)[14]? = some ({ dst := some 58, op := Op.load 24 (Operand.tmp 9), type := 24, pos := "law.go:58", after := #[{ on := 13, ground := Ground.guard }], guard := some (13, true) }) := by kernel_rfl
      obtain rfl := Option.some.inj (hlit.symm.trans hoi)
      have r9 : b.tmps.getD 9 undef = (.pointer (some ⟨kp, 0, none⟩)) := rd ((hT.old 9 (by kernel_rfl)).trans t9)
      refine op_go hoi (want_yes rfl (d := 57) (by kernel_rfl) (hT.at 13 (by kernel_rfl) (pre_of hpre 13 (by kernel_rfl)))) fun K hK => ?_
      clear hT hpre hun hlit hoi
      go_simp
      exact hK _ _ ⟨(), fun _ _ => rfl, rfl, sc0, sc1, pc0, pc1, HB⟩
    · have hlit : (regOps Tryd.f4 5)[15]? = some ({ dst := some 59, op := Op.move (Operand.tmp 0), type := 3, pos := "law.go:58", after := #[{ on := 13, ground := Ground.guard }], guard := some (13, true) }) := by kernel_rfl
      obtain rfl := Option.some.inj (hlit.symm.trans hoi)
      have r0 : b.tmps.getD 0 undef = (.int .i64 aa) := rd ((hT.old 0 (by kernel_rfl)).trans t0)
      refine op_go hoi (want_yes rfl (d := 57) (by kernel_rfl) (hT.at 13 (by kernel_rfl) (pre_of hpre 13 (by kernel_rfl)))) fun K hK => ?_
      clear hT hpre hun hlit hoi
      go_simp
      exact hK _ _ ⟨(), fun _ _ => rfl, rfl, sc0, sc1, pc0, pc1, HB⟩
    · have hlit : (regOps Tryd.f4 5)[16]? = some ({ dst := some 60, op := Op.move (Operand.tmp 1), type := 3, pos := "law.go:58", after := #[{ on := 13, ground := Ground.guard }], guard := some (13, true) }) := by kernel_rfl
      obtain rfl := Option.some.inj (hlit.symm.trans hoi)
      have r1 : b.tmps.getD 1 undef = (.int .i64 bb) := rd ((hT.old 1 (by kernel_rfl)).trans t1)
      refine op_go hoi (want_yes rfl (d := 57) (by kernel_rfl) (hT.at 13 (by kernel_rfl) (pre_of hpre 13 (by kernel_rfl)))) fun K hK => ?_
      clear hT hpre hun hlit hoi
      go_simp
      exact hK _ _ ⟨(), fun _ _ => rfl, rfl, sc0, sc1, pc0, pc1, HB⟩
    · have hlit : (regOps Tryd.f4 5)[17]? = some ({ dst := some 61, op := Op.call { callee := Callee.value (Operand.func 12), args := #[Operand.tmp 59, Operand.tmp 60], argTypes := #[3, 3] }, type := 24, pos := "law.go:58", after := #[{ on := 15, ground := Ground.data }, { on := 16, ground := Ground.data }, { on := 13, ground := Ground.chain }, { on := 13, ground := Ground.guard }], guard := some (13, true) }) := by kernel_rfl
      obtain rfl := Option.some.inj (hlit.symm.trans hoi)
      have r59 : b.tmps.getD 59 undef = (.int .i64 aa) := rd (hT.at 15 (by kernel_rfl) (pre_of hpre 15 (by kernel_rfl)))
      have r60 : b.tmps.getD 60 undef = (.int .i64 bb) := rd (hT.at 16 (by kernel_rfl) (pre_of hpre 16 (by kernel_rfl)))
      refine op_go hoi (want_yes rfl (d := 57) (by kernel_rfl) (hT.at 13 (by kernel_rfl) (pre_of hpre 13 (by kernel_rfl)))) fun K hK => ?_
      clear hT hpre hun hlit hoi
      go_simp
      go_at_call 12
      refine (m4 _).mono ?_; rintro e w2 ⟨rfl, hb⟩; replace sc0 := ck hb (a := ⟨ks, 0, none⟩) (v := .int .i64 s0) (by go_simp); replace sc1 := ck hb (a := ⟨ks, 1, none⟩) (v := .int .u64 s1) (by go_simp); replace pc0 := ck hb (a := ⟨kp, 0, none⟩) (v := .int .i64 p0) (by go_simp); replace pc1 := ck hb (a := ⟨kp, 1, none⟩) (v := .int .u64 p1) (by go_simp); replace HB : Below W.heap.size W w2 := bt HB hb; clear hb
      exact hK _ _ ⟨(), fun _ _ => rfl, rfl, sc0, sc1, pc0, pc1, HB⟩
    · have hlit : (regOps Tryd.f4 5)[18]? = some ({ dst := some 62, op := Op.binOp BinOp.eql 24 (Operand.tmp 58) (Operand.tmp 61) 24, type := 4, pos := "law.go:58", after := #[{ on := 14, ground := Ground.data }, { on := 17, ground := Ground.data }, { on := 13, ground := Ground.guard }], guard := some (13, true) }) := by kernel_rfl
      obtain rfl := Option.some.inj (hlit.symm.trans hoi)
      have r58 : b.tmps.getD 58 undef = (.agg #[.int .i64 p0, .int .u64 p1]) := rd (hT.at 14 (by kernel_rfl) (pre_of hpre 14 (by kernel_rfl)))
      have r61 : b.tmps.getD 61 undef = (.agg #[.int .i64 p0, .int .u64 p1]) := rd (hT.at 17 (by kernel_rfl) (pre_of hpre 17 (by kernel_rfl)))
      refine op_go hoi (want_yes rfl (d := 57) (by kernel_rfl) (hT.at 13 (by kernel_rfl) (pre_of hpre 13 (by kernel_rfl)))) fun K hK => ?_
      clear hT hpre hun hlit hoi
      go_simp
      exact hK _ _ ⟨(), fun _ _ => rfl, rfl, sc0, sc1, pc0, pc1, HB⟩
    · have hlit : (regOps Tryd.f4 5)[19]? = some ({ dst := some 63, op := Op.pick (Operand.tmp 57) (Operand.tmp 62) (Operand.const (Value.bool false)), type := 4, pos := "law.go:58", after := #[{ on := 13, ground := Ground.data }, { on := 18, ground := Ground.data }], guard := none }) := by kernel_rfl
      obtain rfl := Option.some.inj (hlit.symm.trans hoi)
      have r57 : b.tmps.getD 57 undef = (.bool true) := rd (hT.at 13 (by kernel_rfl) (pre_of hpre 13 (by kernel_rfl)))
      have r62 : b.tmps.getD 62 undef = (.bool true) := rd (hT.at 18 (by kernel_rfl) (pre_of hpre 18 (by kernel_rfl)))
      refine op_go hoi (want_all rfl) fun K hK => ?_
      clear hT hpre hun hlit hoi
      go_simp
      exact hK _ _ ⟨(), fun _ _ => rfl, rfl, sc0, sc1, pc0, pc1, HB⟩
    · have hlit : (regOps Tryd.f4 5)[20]? = some ({ dst := some 64, op := Op.move (Operand.tmp 63), type := 4, pos := "law.go:58", after := #[{ on := 19, ground := Ground.data }, { on := 17, ground := Ground.chain }], guard := none }) := by kernel_rfl
      obtain rfl := Option.some.inj (hlit.symm.trans hoi)
      have r63 : b.tmps.getD 63 undef = (.bool true) := rd (hT.at 19 (by kernel_rfl) (pre_of hpre 19 (by kernel_rfl)))
      refine op_go hoi (want_all rfl) fun K hK => ?_
      clear hT hpre hun hlit hoi
      go_simp
      exact hK _ _ ⟨(), fun _ _ => rfl, rfl, sc0, sc1, pc0, pc1, HB⟩
    · have hlit : (regOps Tryd.f4 5)[21]? = some ({ dst := some 65, op := Op.move (Operand.tmp 0), type := 3, pos := "law.go:58", after := #[{ on := 20, ground := Ground.guard }], guard := some (20, true) }) := by kernel_rfl
      obtain rfl := Option.some.inj (hlit.symm.trans hoi)
      have r0 : b.tmps.getD 0 undef = (.int .i64 aa) := rd ((hT.old 0 (by kernel_rfl)).trans t0)
      refine op_go hoi (want_yes rfl (d := 64) (by kernel_rfl) (hT.at 20 (by kernel_rfl) (pre_of hpre 20 (by kernel_rfl)))) fun K hK => ?_
      clear hT hpre hun hlit hoi
      go_simp
      exact hK _ _ ⟨(), fun _ _ => rfl, rfl, sc0, sc1, pc0, pc1, HB⟩
    · have hlit : (regOps Tryd.f4 5)[22]? = some ({ dst := some 66, op := Op.move (Operand.tmp 1), type := 3, pos := "law.go:58", after := #[{ on := 20, ground := Ground.guard }], guard := some (20, true) }) := by kernel_rfl
      obtain rfl := Option.some.inj (hlit.symm.trans hoi)
      have r1 : b.tmps.getD 1 undef = (.int .i64 bb) := rd ((hT.old 1 (by kernel_rfl)).trans t1)
      refine op_go hoi (want_yes rfl (d := 64) (by kernel_rfl) (hT.at 20 (by kernel_rfl) (pre_of hpre 20 (by kernel_rfl)))) fun K hK => ?_
      clear hT hpre hun hlit hoi
      go_simp
      exact hK _ _ ⟨(), fun _ _ => rfl, rfl, sc0, sc1, pc0, pc1, HB⟩
    · have hlit : (regOps Tryd.f4 5)[23]? = some ({ dst := some 67, op := Op.call { callee := Callee.value (Operand.func 12), args := #[Operand.tmp 65, Operand.tmp 66], argTypes := #[3, 3] }, type := 24, pos := "law.go:58", after := #[{ on := 21, ground := Ground.data }, { on := 22, ground := Ground.data }, { on := 20, ground := Ground.chain }, { on := 20, ground := Ground.guard }], guard := some (20, true) }) := by kernel_rfl
      obtain rfl := Option.some.inj (hlit.symm.trans hoi)
      have r65 : b.tmps.getD 65 undef = (.int .i64 aa) := rd (hT.at 21 (by kernel_rfl) (pre_of hpre 21 (by kernel_rfl)))
      have r66 : b.tmps.getD 66 undef = (.int .i64 bb) := rd (hT.at 22 (by kernel_rfl) (pre_of hpre 22 (by kernel_rfl)))
      refine op_go hoi (want_yes rfl (d := 64) (by kernel_rfl) (hT.at 20 (by kernel_rfl) (pre_of hpre 20 (by kernel_rfl)))) fun K hK => ?_
      clear hT hpre hun hlit hoi
      go_simp
      go_at_call 12
      refine (m4 _).mono ?_; rintro e w2 ⟨rfl, hb⟩; replace sc0 := ck hb (a := ⟨ks, 0, none⟩) (v := .int .i64 s0) (by go_simp); replace sc1 := ck hb (a := ⟨ks, 1, none⟩) (v := .int .u64 s1) (by go_simp); replace pc0 := ck hb (a := ⟨kp, 0, none⟩) (v := .int .i64 p0) (by go_simp); replace pc1 := ck hb (a := ⟨kp, 1, none⟩) (v := .int .u64 p1) (by go_simp); replace HB : Below W.heap.size W w2 := bt HB hb; clear hb
      exact hK _ _ ⟨(), fun _ _ => rfl, rfl, sc0, sc1, pc0, pc1, HB⟩
    · have hlit : (regOps Tryd.f4 5)[24]? = some ({ dst := some 68, op := Op.call { callee := Callee.value (Operand.func 15), args := #[Operand.tmp 67], argTypes := #[24] }, type := 3, pos := "law.go:58", after := #[{ on := 23, ground := Ground.data }, { on := 23, ground := Ground.chain }, { on := 20, ground := Ground.guard }], guard := some (20, true) }) := by kernel_rfl
      obtain rfl := Option.some.inj (hlit.symm.trans hoi)
      have r67 : b.tmps.getD 67 undef = (.agg #[.int .i64 p0, .int .u64 p1]) := rd (hT.at 23 (by kernel_rfl) (pre_of hpre 23 (by kernel_rfl)))
      refine op_go hoi (want_yes rfl (d := 64) (by kernel_rfl) (hT.at 20 (by kernel_rfl) (pre_of hpre 20 (by kernel_rfl)))) fun K hK => ?_
      clear hT hpre hun hlit hoi
      go_simp
      go_at_call 15
      refine (m5 _).mono ?_; rintro e w2 ⟨rfl, hb⟩; replace sc0 := ck hb (a := ⟨ks, 0, none⟩) (v := .int .i64 s0) (by go_simp); replace sc1 := ck hb (a := ⟨ks, 1, none⟩) (v := .int .u64 s1) (by go_simp); replace pc0 := ck hb (a := ⟨kp, 0, none⟩) (v := .int .i64 p0) (by go_simp); replace pc1 := ck hb (a := ⟨kp, 1, none⟩) (v := .int .u64 p1) (by go_simp); replace HB : Below W.heap.size W w2 := bt HB hb; clear hb
      exact hK _ _ ⟨(), fun _ _ => rfl, rfl, sc0, sc1, pc0, pc1, HB⟩
    · have hlit : (regOps Tryd.f4 5)[25]? = some ({ dst := some 69, op := Op.binOp BinOp.eql 3 (Operand.tmp 68) (Operand.const (Value.int IntKind.i64 0)) 3, type := 4, pos := "law.go:58", after := #[{ on := 24, ground := Ground.data }, { on := 20, ground := Ground.guard }], guard := some (20, true) }) := by kernel_rfl
      obtain rfl := Option.some.inj (hlit.symm.trans hoi)
      have r68 : b.tmps.getD 68 undef = (.int .i64 sg) := rd (hT.at 24 (by kernel_rfl) (pre_of hpre 24 (by kernel_rfl)))
      refine op_go hoi (want_yes rfl (d := 64) (by kernel_rfl) (hT.at 20 (by kernel_rfl) (pre_of hpre 20 (by kernel_rfl)))) fun K hK => ?_
      clear hT hpre hun hlit hoi
      go_simp
      exact hK _ _ ⟨(), fun _ _ => rfl, rfl, sc0, sc1, pc0, pc1, HB⟩
    · have hlit : (regOps Tryd.f4 5)[26]? = some ({ dst := some 70, op := Op.move (Operand.tmp 0), type := 3, pos := "law.go:58", after := #[{ on := 20, ground := Ground.guard }], guard := some (20, true) }) := by kernel_rfl
      obtain rfl := Option.some.inj (hlit.symm.trans hoi)
      have r0 : b.tmps.getD 0 undef = (.int .i64 aa) := rd ((hT.old 0 (by kernel_rfl)).trans t0)
      refine op_go hoi (want_yes rfl (d := 64) (by kernel_rfl) (hT.at 20 (by kernel_rfl) (pre_of hpre 20 (by kernel_rfl)))) fun K hK => ?_
      clear hT hpre hun hlit hoi
      go_simp
      exact hK _ _ ⟨(), fun _ _ => rfl, rfl, sc0, sc1, pc0, pc1, HB⟩
    · have hlit : (regOps Tryd.f4 5)[27]? = some ({ dst := some 71, op := Op.binOp BinOp.eql 3 (Operand.tmp 70) (Operand.const (Value.int IntKind.i64 0)) 3, type := 4, pos := "law.go:58", after := #[{ on := 26, ground := Ground.data }, { on := 20, ground := Ground.guard }], guard := some (20, true) }) := by kernel_rfl
      obtain rfl := Option.some.inj (hlit.symm.trans hoi)
      have r70 : b.tmps.getD 70 undef = (.int .i64 aa) := rd (hT.at 26 (by kernel_rfl) (pre_of hpre 26 (by kernel_rfl)))
      refine op_go hoi (want_yes rfl (d := 64) (by kernel_rfl) (hT.at 20 (by kernel_rfl) (pre_of hpre 20 (by kernel_rfl)))) fun K hK => ?_
      clear hT hpre hun hlit hoi
      go_simp
      exact hK _ _ ⟨(), fun _ _ => rfl, rfl, sc0, sc1, pc0, pc1, HB⟩
    · have hlit : (regOps Tryd.f4 5)[28]? = some ({ dst := some 72, op := Op.move (Operand.tmp 71), type := 4, pos := "law.go:58", after := #[{ on := 27, ground := Ground.data }, { on := 24, ground := Ground.chain }, { on := 20, ground := Ground.guard }], guard := some (20, true) }) := by kernel_rfl
      obtain rfl := Option.some.inj (hlit.symm.trans hoi)
      have r71 : b.tmps.getD 71 undef = (.bool true) := rd (hT.at 27 (by kernel_rfl) (pre_of hpre 27 (by kernel_rfl)))
      refine op_go hoi (want_yes rfl (d := 64) (by kernel_rfl) (hT.at 20 (by kernel_rfl) (pre_of hpre 20 (by kernel_rfl)))) fun K hK => ?_
      clear hT hpre hun hlit hoi
      go_simp
      exact hK _ _ ⟨(), fun _ _ => rfl, rfl, sc0, sc1, pc0, pc1, HB⟩
    · have hlit : (regOps Tryd.f4 5)[29]? = some ({ dst := some 73, op := Op.move (Operand.tmp 1), type := 3, pos := "law.go:58", after := #[{ on := 28, ground := Ground.guard }], guard := some (28, false) }) := by kernel_rfl
      obtain rfl := Option.some.inj (hlit.symm.trans hoi)
      exact op_not hoi (want_no rfl (d := 72) (by kernel_rfl) (hT.at 28 (by kernel_rfl) (pre_of hpre 28 (by kernel_rfl)))) ⟨(), fun _ _ => rfl, rfl, sc0, sc1, pc0, pc1, HB⟩
    · have hlit : (regOps Tryd.f4 5)[30]? = some ({ dst := some 74, op := Op.binOp BinOp.eql 3 (Operand.tmp 73) (Operand.const (Value.int IntKind.i64 0)) 3, type := 4, pos := "law.go:58", after := #[{ on := 29, ground := Ground.data }, { on := 28, ground := Ground.guard }], guard := some (28, false) }) := by kernel_rfl
      obtain rfl := Option.some.inj (hlit.symm.trans hoi)
      exact op_not hoi (want_no rfl (d := 72) (by kernel_rfl) (hT.at 28 (by kernel_rfl) (pre_of hpre 28 (by kernel_rfl)))) ⟨(), fun _ _ => rfl, rfl, sc0, sc1, pc0, pc1, HB⟩
    · have hlit : (regOps Tryd.f4 5)[31]? = some ({ dst := some 75, op := Op.pick (Operand.tmp 72) (Operand.const (Value.bool true)) (Operand.tmp 74), type := 4, pos := "law.go:58", after := #[{ on := 28, ground := Ground.data }, { on := 30, ground := Ground.data }, { on := 20, ground := Ground.guard }], guard := some (20, true) }) := by kernel_rfl
      obtain rfl := Option.some.inj (hlit.symm.trans hoi)
      have r72 : b.tmps.getD 72 undef = (.bool true) := rd (hT.at 28 (by kernel_rfl) (pre_of hpre 28 (by kernel_rfl)))
      have r74 : b.tmps.getD 74 undef = (undef) := rd (hT.at 30 (by kernel_rfl) (pre_of hpre 30 (by kernel_rfl)))
      refine op_go hoi (want_yes rfl (d := 64) (by kernel_rfl) (hT.at 20 (by kernel_rfl) (pre_of hpre 20 (by kernel_rfl)))) fun K hK => ?_
      clear hT hpre hun hlit hoi
      go_simp
      exact hK _ _ ⟨(), fun _ _ => rfl, rfl, sc0, sc1, pc0, pc1, HB⟩
    · have hlit : (regOps Tryd.f4 5)[32]? = some ({ dst := some 76, op := Op.binOp BinOp.eql 4 (Operand.tmp 69) (Operand.tmp 75) 4, type := 4, pos := "law.go:58", after := #[{ on := 25, ground := Ground.data }, { on := 31, ground := Ground.data }, { on := 20, ground := Ground.guard }], guard := some (20, true) }) := by kernel_rfl
      obtain rfl := Option.some.inj (hlit.symm.trans hoi)
      have r69 : b.tmps.getD 69 undef = (.bool true) := rd (hT.at 25 (by kernel_rfl) (pre_of hpre 25 (by kernel_rfl)))
      have r75 : b.tmps.getD 75 undef = (.bool true) := rd (hT.at 31 (by kernel_rfl) (pre_of hpre 31 (by kernel_rfl)))
      refine op_go hoi (want_yes rfl (d := 64) (by kernel_rfl) (hT.at 20 (by kernel_rfl) (pre_of hpre 20 (by kernel_rfl)))) fun K hK => ?_
      clear hT hpre hun hlit hoi
      go_simp
      exact hK _ _ ⟨(), fun _ _ => rfl, rfl, sc0, sc1, pc0, pc1, HB⟩
    · have hlit : (regOps Tryd.f4 5)[33]? = some ({ dst := some 77, op := Op.pick (Operand.tmp 64) (Operand.tmp 76) (Operand.const (Value.bool false)), type := 4, pos := "law.go:58", after := #[{ on := 20, ground := Ground.data }, { on := 32, ground := Ground.data }], guard := none }) := by kernel_rfl
      obtain rfl := Option.some.inj (hlit.symm.trans hoi)
      have r64 : b.tmps.getD 64 undef = (.bool true) := rd (hT.at 20 (by kernel_rfl) (pre_of hpre 20 (by kernel_rfl)))
      have r76 : b.tmps.getD 76 undef = (.bool true) := rd (hT.at 32 (by kernel_rfl) (pre_of hpre 32 (by kernel_rfl)))
      refine op_go hoi (want_all rfl) fun K hK => ?_
      clear hT hpre hun hlit hoi
      go_simp
      exact hK _ _ ⟨(), fun _ _ => rfl, rfl, sc0, sc1, pc0, pc1, HB⟩
    · have hlit : (regOps Tryd.f4 5)[34]? = some ({ dst := some 78, op := Op.move (Operand.tmp 77), type := 4, pos := "law.go:58", after := #[{ on := 33, ground := Ground.data }, { on := 28, ground := Ground.chain }], guard := none }) := by kernel_rfl
      obtain rfl := Option.some.inj (hlit.symm.trans hoi)
      have r77 : b.tmps.getD 77 undef = (.bool true) := rd (hT.at 33 (by kernel_rfl) (pre_of hpre 33 (by kernel_rfl)))
      refine op_go hoi (want_all rfl) fun K hK => ?_
      clear hT hpre hun hlit hoi
      go_simp
      exact hK _ _ ⟨(), fun _ _ => rfl, rfl, sc0, sc1, pc0, pc1, HB⟩
    · have hlit : (regOps Tryd.f4 5)[35]? = some ({ dst := some 79, op := Op.call { callee := Callee.value (Operand.func 9), args := #[], argTypes := #[] }, type := 4, pos := "law.go:58", after := #[{ on := 34, ground := Ground.chain }, { on := 34, ground := Ground.guard }], guard := some (34, true) }) := by kernel_rfl
      obtain rfl := Option.some.inj (hlit.symm.trans hoi)
      refine op_go hoi (want_yes rfl (d := 78) (by kernel_rfl) (hT.at 34 (by kernel_rfl) (pre_of hpre 34 (by kernel_rfl)))) fun K hK => ?_
      clear hT hpre hun hlit hoi
      go_simp
      go_at_call 9
      refine (awake9 _ (tab_below htab HB)).mono ?_; rintro e w2 ⟨rfl, hb⟩; replace sc0 := ck hb (a := ⟨ks, 0, none⟩) (v := .int .i64 s0) (by go_simp); replace sc1 := ck hb (a := ⟨ks, 1, none⟩) (v := .int .u64 s1) (by go_simp); replace pc0 := ck hb (a := ⟨kp, 0, none⟩) (v := .int .i64 p0) (by go_simp); replace pc1 := ck hb (a := ⟨kp, 1, none⟩) (v := .int .u64 p1) (by go_simp); replace HB : Below W.heap.size W w2 := bt HB hb; clear hb
      exact hK _ _ ⟨(), fun _ _ => rfl, rfl, sc0, sc1, pc0, pc1, HB⟩
    · have hlit : (regOps Tryd.f4 5)[36]? = some ({ dst := some 80, op := Op.pick (Operand.tmp 78) (Operand.tmp 79) (Operand.const (Value.bool false)), type := 4, pos := "law.go:58", after := #[{ on := 34, ground := Ground.data }, { on := 35, ground := Ground.data }], guard := none }) := by kernel_rfl
      obtain rfl := Option.some.inj (hlit.symm.trans hoi)
      have r78 : b.tmps.getD 78 undef = (.bool true) := rd (hT.at 34 (by kernel_rfl) (pre_of hpre 34 (by kernel_rfl)))
      have r79 : b.tmps.getD 79 undef = (.bool true) := rd (hT.at 35 (by kernel_rfl) (pre_of hpre 35 (by kernel_rfl)))
      refine op_go hoi (want_all rfl) fun K hK => ?_
      clear hT hpre hun hlit hoi
      go_simp
      exact hK _ _ ⟨(), fun _ _ => rfl, rfl, sc0, sc1, pc0, pc1, HB⟩
    · have hlit : (regOps Tryd.f4 5)[37]? = some ({ dst := some 6, op := Op.assign (Operand.tmp 80), type := 4, pos := "law.go:58", after := #[{ on := 36, ground := Ground.data }, { on := 35, ground := Ground.chain }, { on := 0, ground := Ground.phase }, { on := 1, ground := Ground.phase }, { on := 2, ground := Ground.phase }, { on := 3, ground := Ground.phase }, { on := 4, ground := Ground.phase }, { on := 5, ground := Ground.phase }, { on := 6, ground := Ground.phase }, { on := 7, ground := Ground.phase }, { on := 8, ground := Ground.phase }, { on := 9, ground := Ground.phase }, { on := 10, ground := Ground.phase }, { on := 11, ground := Ground.phase }, { on := 12, ground := Ground.phase }, { on := 13, ground := Ground.phase }, { on := 14, ground := Ground.phase }, { on := 15, ground := Ground.phase }, { on := 16, ground := Ground.phase }, { on := 17, ground := Ground.phase }, { on := 18, ground := Ground.phase }, { on := 19, ground := Ground.phase }, { on := 20, ground := Ground.phase }, { on := 21, ground := Ground.phase }, { on := 22, ground := Ground.phase }, { on := 23, ground := Ground.phase }, { on := 24, ground := Ground.phase }, { on := 25, ground := Ground.phase }, { on := 26, ground := Ground.phase }, { on := 27, ground := Ground.phase }, { on := 28, ground := Ground.phase }, { on := 29, ground := Ground.phase }, { on := 30, ground := Ground.phase }, { on := 31, ground := Ground.phase }, { on := 32, ground := Ground.phase }, { on := 33, ground := Ground.phase }, { on := 34, ground := Ground.phase }, { on := 35, ground := Ground.phase }, { on := 36, ground := Ground.phase }], guard := none }) := by kernel_rfl
      obtain rfl := Option.some.inj (hlit.symm.trans hoi)
      have r80 : b.tmps.getD 80 undef = (.bool true) := rd (hT.at 36 (by kernel_rfl) (pre_of hpre 36 (by kernel_rfl)))
      refine op_go hoi (want_all rfl) fun K hK => ?_
      clear hT hpre hun hlit hoi
      go_simp
      exact hK _ _ ⟨(), fun _ _ => rfl, rfl, sc0, sc1, pc0, pc1, HB⟩
  · intro g b w' hT hS
    rw [hT.all ht]
    have hn : (regOps Tryd.f4 5).size = 38 := by kernel_rfl
    rw [hn]
    exact he w' hS

/-- What each operation of the region leaves. -/
def region4_5_11V (aa bb cc bc p0 p1 s0 s1 sg : Int) : Nat → Value
  | 0 => .bool true
  | 1 => .bool true
  | 2 => .bool true
  | 3 => .bool true
  | 4 => .bool true
  | 5 => .agg #[.int .i64 s0, .int .u64 s1]
  | 6 => .int .i64 aa
  | 7 => .int .i64 bb
  | 8 => .int .i64 cc
  | 9 => .int .i64 bc
  | 10 => .agg #[.int .i64 s0, .int .u64 s1]
  | 11 => .bool true
  | 12 => .bool true
  | 13 => .bool true
  | 14 => .agg #[.int .i64 p0, .int .u64 p1]
  | 15 => .int .i64 aa
  | 16 => .int .i64 bb
  | 17 => .agg #[.int .i64 p0, .int .u64 p1]
  | 18 => .bool true
  | 19 => .bool true
  | 20 => .bool true
  | 21 => .int .i64 aa
  | 22 => .int .i64 bb
  | 23 => .agg #[.int .i64 p0, .int .u64 p1]
  | 24 => .int .i64 sg
  | 25 => .bool true
  | 26 => .int .i64 aa
  | 27 => .bool true
  | 28 => .bool true
  | 29 => undef
  | 30 => undef
  | 31 => .bool true
  | 32 => .bool true
  | 33 => .bool true
  | 34 => .bool true
  | 35 => .bool true
  | 36 => .bool true
  | 37 => .bool true
  | _ => undef

set_option maxHeartbeats 4000000 in
set_option maxRecDepth 100000 in
theorem region4_5_11 (aa bb cc bc p0 p1 s0 s1 sg : Int) (ks kp : Nat) (W : World) (htab : Tab W) (m3 : ∀ w : World, Calls Tryd.prog 12 #[.int .i64 aa, .int .i64 bc] w fun e w' => e = .returned (.agg #[.int .i64 s0, .int .u64 s1]) ∧ Below w.heap.size w w') (m4 : ∀ w : World, Calls Tryd.prog 12 #[.int .i64 aa, .int .i64 bb] w fun e w' => e = .returned (.agg #[.int .i64 p0, .int .u64 p1]) ∧ Below w.heap.size w w') (m5 : ∀ w : World, Calls Tryd.prog 15 #[.agg #[.int .i64 p0, .int .u64 p1]] w fun e w' => e = .returned (.int .i64 sg) ∧ Below w.heap.size w w') (e1 : (sg == 0) = true) (e2 : (aa == 0) = true) (e3 : (bb == 0) = true) (e4 : IntKind.i64.wrap (bb + cc) = bc) {id : Nat} {ops : Array Oper} {Q : Exit → Act → World → Prop} {a : Act} {w : World}
    (ho : ops = (regOps Tryd.f4 5)) (hsz : a.tmps.size = 81) (t0 : a.tmps[0]? = some (.int .i64 aa)) (t1 : a.tmps[1]? = some (.int .i64 bb)) (t2 : a.tmps[2]? = some (.int .i64 cc)) (t7 : a.tmps[7]? = some (.pointer (some ⟨ks, 0, none⟩))) (t9 : a.tmps[9]? = some (.pointer (some ⟨kp, 0, none⟩))) (t8 : a.tmps[8]? = some (.bool true)) (t10 : a.tmps[10]? = some (.bool true))
    (h0 : w.drew.cell? ⟨ks, 0, none⟩ = some (.int .i64 s0) ∧ w.drew.cell? ⟨ks, 1, none⟩ = some (.int .u64 s1) ∧ w.drew.cell? ⟨kp, 0, none⟩ = some (.int .i64 p0) ∧ w.drew.cell? ⟨kp, 1, none⟩ = some (.int .u64 p1) ∧ Below W.heap.size W w.drew)
    (he : ∀ w', w'.cell? ⟨ks, 0, none⟩ = some (.int .i64 s0) ∧ w'.cell? ⟨ks, 1, none⟩ = some (.int .u64 s1) ∧ w'.cell? ⟨kp, 0, none⟩ = some (.int .i64 p0) ∧ w'.cell? ⟨kp, 1, none⟩ = some (.int .u64 p1) ∧ Below W.heap.size W w' → Q .normal ⟨((((((((((((((((((((((((((((((((((((((a.tmps.setIfInBounds 44 (.bool true)).setIfInBounds 45 (.bool true)).setIfInBounds 46 (.bool true)).setIfInBounds 47 (.bool true)).setIfInBounds 48 (.bool true)).setIfInBounds 49 (.agg #[.int .i64 s0, .int .u64 s1])).setIfInBounds 50 (.int .i64 aa)).setIfInBounds 51 (.int .i64 bb)).setIfInBounds 52 (.int .i64 cc)).setIfInBounds 53 (.int .i64 bc)).setIfInBounds 54 (.agg #[.int .i64 s0, .int .u64 s1])).setIfInBounds 55 (.bool true)).setIfInBounds 56 (.bool true)).setIfInBounds 57 (.bool true)).setIfInBounds 58 (.agg #[.int .i64 p0, .int .u64 p1])).setIfInBounds 59 (.int .i64 aa)).setIfInBounds 60 (.int .i64 bb)).setIfInBounds 61 (.agg #[.int .i64 p0, .int .u64 p1])).setIfInBounds 62 (.bool true)).setIfInBounds 63 (.bool true)).setIfInBounds 64 (.bool true)).setIfInBounds 65 (.int .i64 aa)).setIfInBounds 66 (.int .i64 bb)).setIfInBounds 67 (.agg #[.int .i64 p0, .int .u64 p1])).setIfInBounds 68 (.int .i64 sg)).setIfInBounds 69 (.bool true)).setIfInBounds 70 (.int .i64 aa)).setIfInBounds 71 (.bool true)).setIfInBounds 72 (.bool true)).setIfInBounds 73 (undef)).setIfInBounds 74 (undef)).setIfInBounds 75 (.bool true)).setIfInBounds 76 (.bool true)).setIfInBounds 77 (.bool true)).setIfInBounds 78 (.bool true)).setIfInBounds 79 (.bool true)).setIfInBounds 80 (.bool true)).setIfInBounds 6 (.bool true)), a.defers⟩ w') :
    (Code.region id ops true).wp Tryd.prog Q a w := by
  have ht : tidy (regOps Tryd.f4 5) a.tmps.size = true := by rw [hsz]; kernel_rfl
  refine region_tab (G := Unit) (fun _ => (region4_5_11V aa bb cc bc p0 p1 s0 s1 sg  )) (fun _ _ w' => w'.cell? ⟨ks, 0, none⟩ = some (.int .i64 s0) ∧ w'.cell? ⟨ks, 1, none⟩ = some (.int .u64 s1) ∧ w'.cell? ⟨kp, 0, none⟩ = some (.int .i64 p0) ∧ w'.cell? ⟨kp, 1, none⟩ = some (.int .u64 p1) ∧ Below W.heap.size W w') () (by kernel_rfl) ho ht h0 ?_ ?_
  · intro i o hoi g L b w' hun hpre hT hS
    clear he h0 ho hsz ht
    have hi : i < (regOps Tryd.f4 5).size := (Array.getElem?_eq_some_iff.1 hoi).1
    rw [show (regOps Tryd.f4 5).size = 38 by kernel_rfl] at hi
    obtain ⟨sc0, sc1, pc0, pc1, HB⟩ := hS
    have hcases : i = 0 ∨ i = 1 ∨ i = 2 ∨ i = 3 ∨ i = 4 ∨ i = 5 ∨ i = 6 ∨ i = 7 ∨ i = 8 ∨ i = 9 ∨ i = 10 ∨ i = 11 ∨ i = 12 ∨ i = 13 ∨ i = 14 ∨ i = 15 ∨ i = 16 ∨ i = 17 ∨ i = 18 ∨ i = 19 ∨ i = 20 ∨ i = 21 ∨ i = 22 ∨ i = 23 ∨ i = 24 ∨ i = 25 ∨ i = 26 ∨ i = 27 ∨ i = 28 ∨ i = 29 ∨ i = 30 ∨ i = 31 ∨ i = 32 ∨ i = 33 ∨ i = 34 ∨ i = 35 ∨ i = 36 ∨ i = 37 := by omega
    rcases hcases with rfl | rfl | rfl | rfl | rfl | rfl | rfl | rfl | rfl | rfl | rfl | rfl | rfl | rfl | rfl | rfl | rfl | rfl | rfl | rfl | rfl | rfl | rfl | rfl | rfl | rfl | rfl | rfl | rfl | rfl | rfl | rfl | rfl | rfl | rfl | rfl | rfl | rfl
    · have hlit : (regOps Tryd.f4 5)[0]? = some ({ dst := some 44, op := Op.move (Operand.tmp 8), type := 4, pos := "law.go:58", after := #[], guard := none }) := by kernel_rfl
      obtain rfl := Option.some.inj (hlit.symm.trans hoi)
      have r8 : b.tmps.getD 8 undef = (.bool true) := rd ((hT.old 8 (by kernel_rfl)).trans t8)
      refine op_go hoi (want_all rfl) fun K hK => ?_
      clear hT hpre hun hlit hoi
      go_simp
      exact hK _ _ ⟨(), fun _ _ => rfl, rfl, sc0, sc1, pc0, pc1, HB⟩
    · have hlit : (regOps Tryd.f4 5)[1]? = some ({ dst := some 45, op := Op.move (Operand.tmp 44), type := 4, pos := "law.go:58", after := #[{ on := 0, ground := Ground.data }], guard := none }) := by kernel_rfl
      obtain rfl := Option.some.inj (hlit.symm.trans hoi)
      have r44 : b.tmps.getD 44 undef = (.bool true) := rd (hT.at 0 (by kernel_rfl) (pre_of hpre 0 (by kernel_rfl)))
      refine op_go hoi (want_all rfl) fun K hK => ?_
      clear hT hpre hun hlit hoi
      go_simp
      exact hK _ _ ⟨(), fun _ _ => rfl, rfl, sc0, sc1, pc0, pc1, HB⟩
    · have hlit : (regOps Tryd.f4 5)[2]? = some ({ dst := some 46, op := Op.move (Operand.tmp 10), type := 4, pos := "law.go:58", after := #[{ on := 1, ground := Ground.guard }], guard := some (1, true) }) := by kernel_rfl
      obtain rfl := Option.some.inj (hlit.symm.trans hoi)
      have r10 : b.tmps.getD 10 undef = (.bool true) := rd ((hT.old 10 (by kernel_rfl)).trans t10)
      refine op_go hoi (want_yes rfl (d := 45) (by kernel_rfl) (hT.at 1 (by kernel_rfl) (pre_of hpre 1 (by kernel_rfl)))) fun K hK => ?_
      clear hT hpre hun hlit hoi
      go_simp
      exact hK _ _ ⟨(), fun _ _ => rfl, rfl, sc0, sc1, pc0, pc1, HB⟩
    · have hlit : (regOps Tryd.f4 5)[3]? = some ({ dst := some 47, op := Op.pick (Operand.tmp 45) (Operand.tmp 46) (Operand.const (Value.bool false)), type := 4, pos := "law.go:58", after := #[{ on := 1, ground := Ground.data }, { on := 2, ground := Ground.data }], guard := none }) := by kernel_rfl
      obtain rfl := Option.some.inj (hlit.symm.trans hoi)
      have r45 : b.tmps.getD 45 undef = (.bool true) := rd (hT.at 1 (by kernel_rfl) (pre_of hpre 1 (by kernel_rfl)))
      have r46 : b.tmps.getD 46 undef = (.bool true) := rd (hT.at 2 (by kernel_rfl) (pre_of hpre 2 (by kernel_rfl)))
      refine op_go hoi (want_all rfl) fun K hK => ?_
      clear hT hpre hun hlit hoi
      go_simp
      exact hK _ _ ⟨(), fun _ _ => rfl, rfl, sc0, sc1, pc0, pc1, HB⟩
    · have hlit : (regOps Tryd.f4 5)[4]? = some ({ dst := some 48, op := Op.move (Operand.tmp 47), type := 4, pos := "law.go:58", after := #[{ on := 3, ground := Ground.data }, { on := 1, ground := Ground.chain }], guard := none }) := by kernel_rfl
      obtain rfl := Option.some.inj (hlit.symm.trans hoi)
      have r47 : b.tmps.getD 47 undef = (.bool true) := rd (hT.at 3 (by kernel_rfl) (pre_of hpre 3 (by kernel_rfl)))
      refine op_go hoi (want_all rfl) fun K hK => ?_
      clear hT hpre hun hlit hoi
      go_simp
      exact hK _ _ ⟨(), fun _ _ => rfl, rfl, sc0, sc1, pc0, pc1, HB⟩
    · have hlit : (regOps Tryd.f4 5)[5]? = some ({ dst := some 49, op := Op.load 24 (Operand.tmp 7), type := 24, pos := "law.go:58", after := #[{ on := 4, ground := Ground.guard }], guard := some (4, true) }) := by kernel_rfl
      obtain rfl := Option.some.inj (hlit.symm.trans hoi)
      have r7 : b.tmps.getD 7 undef = (.pointer (some ⟨ks, 0, none⟩)) := rd ((hT.old 7 (by kernel_rfl)).trans t7)
      refine op_go hoi (want_yes rfl (d := 48) (by kernel_rfl) (hT.at 4 (by kernel_rfl) (pre_of hpre 4 (by kernel_rfl)))) fun K hK => ?_
      clear hT hpre hun hlit hoi
      go_simp
      exact hK _ _ ⟨(), fun _ _ => rfl, rfl, sc0, sc1, pc0, pc1, HB⟩
    · have hlit : (regOps Tryd.f4 5)[6]? = some ({ dst := some 50, op := Op.move (Operand.tmp 0), type := 3, pos := "law.go:58", after := #[{ on := 4, ground := Ground.guard }], guard := some (4, true) }) := by kernel_rfl
      obtain rfl := Option.some.inj (hlit.symm.trans hoi)
      have r0 : b.tmps.getD 0 undef = (.int .i64 aa) := rd ((hT.old 0 (by kernel_rfl)).trans t0)
      refine op_go hoi (want_yes rfl (d := 48) (by kernel_rfl) (hT.at 4 (by kernel_rfl) (pre_of hpre 4 (by kernel_rfl)))) fun K hK => ?_
      clear hT hpre hun hlit hoi
      go_simp
      exact hK _ _ ⟨(), fun _ _ => rfl, rfl, sc0, sc1, pc0, pc1, HB⟩
    · have hlit : (regOps Tryd.f4 5)[7]? = some ({ dst := some 51, op := Op.move (Operand.tmp 1), type := 3, pos := "law.go:58", after := #[{ on := 4, ground := Ground.guard }], guard := some (4, true) }) := by kernel_rfl
      obtain rfl := Option.some.inj (hlit.symm.trans hoi)
      have r1 : b.tmps.getD 1 undef = (.int .i64 bb) := rd ((hT.old 1 (by kernel_rfl)).trans t1)
      refine op_go hoi (want_yes rfl (d := 48) (by kernel_rfl) (hT.at 4 (by kernel_rfl) (pre_of hpre 4 (by kernel_rfl)))) fun K hK => ?_
      clear hT hpre hun hlit hoi
      go_simp
      exact hK _ _ ⟨(), fun _ _ => rfl, rfl, sc0, sc1, pc0, pc1, HB⟩
    · have hlit : (regOps Tryd.f4 5)[8]? = some ({ dst := some 52, op := Op.move (Operand.tmp 2), type := 3, pos := "law.go:58", after := #[{ on := 4, ground := Ground.guard }], guard := some (4, true) }) := by kernel_rfl
      obtain rfl := Option.some.inj (hlit.symm.trans hoi)
      have r2 : b.tmps.getD 2 undef = (.int .i64 cc) := rd ((hT.old 2 (by kernel_rfl)).trans t2)
      refine op_go hoi (want_yes rfl (d := 48) (by kernel_rfl) (hT.at 4 (by kernel_rfl) (pre_of hpre 4 (by kernel_rfl)))) fun K hK => ?_
      clear hT hpre hun hlit hoi
      go_simp
      exact hK _ _ ⟨(), fun _ _ => rfl, rfl, sc0, sc1, pc0, pc1, HB⟩
    · have hlit : (regOps Tryd.f4 5)[9]? = some ({ dst := some 53, op := Op.binOp BinOp.add 3 (Operand.tmp 51) (Operand.tmp 52) 3, type := 3, pos := "law.go:58", after := #[{ on := 7, ground := Ground.data }, { on := 8, ground := Ground.data }, { on := 4, ground := Ground.guard }], guard := some (4, true) }) := by kernel_rfl
      obtain rfl := Option.some.inj (hlit.symm.trans hoi)
      have r51 : b.tmps.getD 51 undef = (.int .i64 bb) := rd (hT.at 7 (by kernel_rfl) (pre_of hpre 7 (by kernel_rfl)))
      have r52 : b.tmps.getD 52 undef = (.int .i64 cc) := rd (hT.at 8 (by kernel_rfl) (pre_of hpre 8 (by kernel_rfl)))
      refine op_go hoi (want_yes rfl (d := 48) (by kernel_rfl) (hT.at 4 (by kernel_rfl) (pre_of hpre 4 (by kernel_rfl)))) fun K hK => ?_
      clear hT hpre hun hlit hoi
      go_simp
      exact hK _ _ ⟨(), fun _ _ => rfl, rfl, sc0, sc1, pc0, pc1, HB⟩
    · have hlit : (regOps Tryd.f4 5)[10]? = some ({ dst := some 54, op := Op.call { callee := Callee.value (Operand.func 12), args := #[Operand.tmp 50, Operand.tmp 53], argTypes := #[3, 3] }, type := 24, pos := "law.go:58", after := #[{ on := 6, ground := Ground.data }, { on := 9, ground := Ground.data }, { on := 4, ground := Ground.chain }, { on := 4, ground := Ground.guard }], guard := some (4, true) }) := by kernel_rfl
      obtain rfl := Option.some.inj (hlit.symm.trans hoi)
      have r50 : b.tmps.getD 50 undef = (.int .i64 aa) := rd (hT.at 6 (by kernel_rfl) (pre_of hpre 6 (by kernel_rfl)))
      have r53 : b.tmps.getD 53 undef = (.int .i64 bc) := rd (hT.at 9 (by kernel_rfl) (pre_of hpre 9 (by kernel_rfl)))
      refine op_go hoi (want_yes rfl (d := 48) (by kernel_rfl) (hT.at 4 (by kernel_rfl) (pre_of hpre 4 (by kernel_rfl)))) fun K hK => ?_
      clear hT hpre hun hlit hoi
      go_simp
      go_at_call 12
      refine (m3 _).mono ?_; rintro e w2 ⟨rfl, hb⟩; replace sc0 := ck hb (a := ⟨ks, 0, none⟩) (v := .int .i64 s0) (by go_simp); replace sc1 := ck hb (a := ⟨ks, 1, none⟩) (v := .int .u64 s1) (by go_simp); replace pc0 := ck hb (a := ⟨kp, 0, none⟩) (v := .int .i64 p0) (by go_simp); replace pc1 := ck hb (a := ⟨kp, 1, none⟩) (v := .int .u64 p1) (by go_simp); replace HB : Below W.heap.size W w2 := bt HB hb; clear hb
      exact hK _ _ ⟨(), fun _ _ => rfl, rfl, sc0, sc1, pc0, pc1, HB⟩
    · have hlit : (regOps Tryd.f4 5)[11]? = some ({ dst := some 55, op := Op.binOp BinOp.eql 24 (Operand.tmp 49) (Operand.tmp 54) 24, type := 4, pos := "law.go:58", after := #[{ on := 5, ground := Ground.data }, { on := 10, ground := Ground.data }, { on := 4, ground := Ground.guard }], guard := some (4, true) }) := by kernel_rfl
      obtain rfl := Option.some.inj (hlit.symm.trans hoi)
      have r49 : b.tmps.getD 49 undef = (.agg #[.int .i64 s0, .int .u64 s1]) := rd (hT.at 5 (by kernel_rfl) (pre_of hpre 5 (by kernel_rfl)))
      have r54 : b.tmps.getD 54 undef = (.agg #[.int .i64 s0, .int .u64 s1]) := rd (hT.at 10 (by kernel_rfl) (pre_of hpre 10 (by kernel_rfl)))
      refine op_go hoi (want_yes rfl (d := 48) (by kernel_rfl) (hT.at 4 (by kernel_rfl) (pre_of hpre 4 (by kernel_rfl)))) fun K hK => ?_
      clear hT hpre hun hlit hoi
      go_simp
      exact hK _ _ ⟨(), fun _ _ => rfl, rfl, sc0, sc1, pc0, pc1, HB⟩
    · have hlit : (regOps Tryd.f4 5)[12]? = some ({ dst := some 56, op := Op.pick (Operand.tmp 48) (Operand.tmp 55) (Operand.const (Value.bool false)), type := 4, pos := "law.go:58", after := #[{ on := 4, ground := Ground.data }, { on := 11, ground := Ground.data }], guard := none }) := by kernel_rfl
      obtain rfl := Option.some.inj (hlit.symm.trans hoi)
      have r48 : b.tmps.getD 48 undef = (.bool true) := rd (hT.at 4 (by kernel_rfl) (pre_of hpre 4 (by kernel_rfl)))
      have r55 : b.tmps.getD 55 undef = (.bool true) := rd (hT.at 11 (by kernel_rfl) (pre_of hpre 11 (by kernel_rfl)))
      refine op_go hoi (want_all rfl) fun K hK => ?_
      clear hT hpre hun hlit hoi
      go_simp
      exact hK _ _ ⟨(), fun _ _ => rfl, rfl, sc0, sc1, pc0, pc1, HB⟩
    · have hlit : (regOps Tryd.f4 5)[13]? = some ({ dst := some 57, op := Op.move (Operand.tmp 56), type := 4, pos := "law.go:58", after := #[{ on := 12, ground := Ground.data }, { on := 10, ground := Ground.chain }], guard := none }) := by kernel_rfl
      obtain rfl := Option.some.inj (hlit.symm.trans hoi)
      have r56 : b.tmps.getD 56 undef = (.bool true) := rd (hT.at 12 (by kernel_rfl) (pre_of hpre 12 (by kernel_rfl)))
      refine op_go hoi (want_all rfl) fun K hK => ?_
      clear hT hpre hun hlit hoi
      go_simp
      exact hK _ _ ⟨(), fun _ _ => rfl, rfl, sc0, sc1, pc0, pc1, HB⟩
    · have hlit : (regOps Tryd.f4 5)[14]? = some ({ dst := some 58, op := Op.load 24 (Operand.tmp 9), type := 24, pos := "law.go:58", after := #[{ on := 13, ground := Ground.guard }], guard := some (13, true) }) := by kernel_rfl
      obtain rfl := Option.some.inj (hlit.symm.trans hoi)
      have r9 : b.tmps.getD 9 undef = (.pointer (some ⟨kp, 0, none⟩)) := rd ((hT.old 9 (by kernel_rfl)).trans t9)
      refine op_go hoi (want_yes rfl (d := 57) (by kernel_rfl) (hT.at 13 (by kernel_rfl) (pre_of hpre 13 (by kernel_rfl)))) fun K hK => ?_
      clear hT hpre hun hlit hoi
      go_simp
      exact hK _ _ ⟨(), fun _ _ => rfl, rfl, sc0, sc1, pc0, pc1, HB⟩
    · have hlit : (regOps Tryd.f4 5)[15]? = some ({ dst := some 59, op := Op.move (Operand.tmp 0), type := 3, pos := "law.go:58", after := #[{ on := 13, ground := Ground.guard }], guard := some (13, true) }) := by kernel_rfl
      obtain rfl := Option.some.inj (hlit.symm.trans hoi)
      have r0 : b.tmps.getD 0 undef = (.int .i64 aa) := rd ((hT.old 0 (by kernel_rfl)).trans t0)
      refine op_go hoi (want_yes rfl (d := 57) (by kernel_rfl) (hT.at 13 (by kernel_rfl) (pre_of hpre 13 (by kernel_rfl)))) fun K hK => ?_
      clear hT hpre hun hlit hoi
      go_simp
      exact hK _ _ ⟨(), fun _ _ => rfl, rfl, sc0, sc1, pc0, pc1, HB⟩
    · have hlit : (regOps Tryd.f4 5)[16]? = some ({ dst := some 60, op := Op.move (Operand.tmp 1), type := 3, pos := "law.go:58", after := #[{ on := 13, ground := Ground.guard }], guard := some (13, true) }) := by kernel_rfl
      obtain rfl := Option.some.inj (hlit.symm.trans hoi)
      have r1 : b.tmps.getD 1 undef = (.int .i64 bb) := rd ((hT.old 1 (by kernel_rfl)).trans t1)
      refine op_go hoi (want_yes rfl (d := 57) (by kernel_rfl) (hT.at 13 (by kernel_rfl) (pre_of hpre 13 (by kernel_rfl)))) fun K hK => ?_
      clear hT hpre hun hlit hoi
      go_simp
      exact hK _ _ ⟨(), fun _ _ => rfl, rfl, sc0, sc1, pc0, pc1, HB⟩
    · have hlit : (regOps Tryd.f4 5)[17]? = some ({ dst := some 61, op := Op.call { callee := Callee.value (Operand.func 12), args := #[Operand.tmp 59, Operand.tmp 60], argTypes := #[3, 3] }, type := 24, pos := "law.go:58", after := #[{ on := 15, ground := Ground.data }, { on := 16, ground := Ground.data }, { on := 13, ground := Ground.chain }, { on := 13, ground := Ground.guard }], guard := some (13, true) }) := by kernel_rfl
      obtain rfl := Option.some.inj (hlit.symm.trans hoi)
      have r59 : b.tmps.getD 59 undef = (.int .i64 aa) := rd (hT.at 15 (by kernel_rfl) (pre_of hpre 15 (by kernel_rfl)))
      have r60 : b.tmps.getD 60 undef = (.int .i64 bb) := rd (hT.at 16 (by kernel_rfl) (pre_of hpre 16 (by kernel_rfl)))
      refine op_go hoi (want_yes rfl (d := 57) (by kernel_rfl) (hT.at 13 (by kernel_rfl) (pre_of hpre 13 (by kernel_rfl)))) fun K hK => ?_
      clear hT hpre hun hlit hoi
      go_simp
      go_at_call 12
      refine (m4 _).mono ?_; rintro e w2 ⟨rfl, hb⟩; replace sc0 := ck hb (a := ⟨ks, 0, none⟩) (v := .int .i64 s0) (by go_simp); replace sc1 := ck hb (a := ⟨ks, 1, none⟩) (v := .int .u64 s1) (by go_simp); replace pc0 := ck hb (a := ⟨kp, 0, none⟩) (v := .int .i64 p0) (by go_simp); replace pc1 := ck hb (a := ⟨kp, 1, none⟩) (v := .int .u64 p1) (by go_simp); replace HB : Below W.heap.size W w2 := bt HB hb; clear hb
      exact hK _ _ ⟨(), fun _ _ => rfl, rfl, sc0, sc1, pc0, pc1, HB⟩
    · have hlit : (regOps Tryd.f4 5)[18]? = some ({ dst := some 62, op := Op.binOp BinOp.eql 24 (Operand.tmp 58) (Operand.tmp 61) 24, type := 4, pos := "law.go:58", after := #[{ on := 14, ground := Ground.data }, { on := 17, ground := Ground.data }, { on := 13, ground := Ground.guard }], guard := some (13, true) }) := by kernel_rfl
      obtain rfl := Option.some.inj (hlit.symm.trans hoi)
      have r58 : b.tmps.getD 58 undef = (.agg #[.int .i64 p0, .int .u64 p1]) := rd (hT.at 14 (by kernel_rfl) (pre_of hpre 14 (by kernel_rfl)))
      have r61 : b.tmps.getD 61 undef = (.agg #[.int .i64 p0, .int .u64 p1]) := rd (hT.at 17 (by kernel_rfl) (pre_of hpre 17 (by kernel_rfl)))
      refine op_go hoi (want_yes rfl (d := 57) (by kernel_rfl) (hT.at 13 (by kernel_rfl) (pre_of hpre 13 (by kernel_rfl)))) fun K hK => ?_
      clear hT hpre hun hlit hoi
      go_simp
      exact hK _ _ ⟨(), fun _ _ => rfl, rfl, sc0, sc1, pc0, pc1, HB⟩
    · have hlit : (regOps Tryd.f4 5)[19]? = some ({ dst := some 63, op := Op.pick (Operand.tmp 57) (Operand.tmp 62) (Operand.const (Value.bool false)), type := 4, pos := "law.go:58", after := #[{ on := 13, ground := Ground.data }, { on := 18, ground := Ground.data }], guard := none }) := by kernel_rfl
      obtain rfl := Option.some.inj (hlit.symm.trans hoi)
      have r57 : b.tmps.getD 57 undef = (.bool true) := rd (hT.at 13 (by kernel_rfl) (pre_of hpre 13 (by kernel_rfl)))
      have r62 : b.tmps.getD 62 undef = (.bool true) := rd (hT.at 18 (by kernel_rfl) (pre_of hpre 18 (by kernel_rfl)))
      refine op_go hoi (want_all rfl) fun K hK => ?_
      clear hT hpre hun hlit hoi
      go_simp
      exact hK _ _ ⟨(), fun _ _ => rfl, rfl, sc0, sc1, pc0, pc1, HB⟩
    · have hlit : (regOps Tryd.f4 5)[20]? = some ({ dst := some 64, op := Op.move (Operand.tmp 63), type := 4, pos := "law.go:58", after := #[{ on := 19, ground := Ground.data }, { on := 17, ground := Ground.chain }], guard := none }) := by kernel_rfl
      obtain rfl := Option.some.inj (hlit.symm.trans hoi)
      have r63 : b.tmps.getD 63 undef = (.bool true) := rd (hT.at 19 (by kernel_rfl) (pre_of hpre 19 (by kernel_rfl)))
      refine op_go hoi (want_all rfl) fun K hK => ?_
      clear hT hpre hun hlit hoi
      go_simp
      exact hK _ _ ⟨(), fun _ _ => rfl, rfl, sc0, sc1, pc0, pc1, HB⟩
    · have hlit : (regOps Tryd.f4 5)[21]? = some ({ dst := some 65, op := Op.move (Operand.tmp 0), type := 3, pos := "law.go:58", after := #[{ on := 20, ground := Ground.guard }], guard := some (20, true) }) := by kernel_rfl
      obtain rfl := Option.some.inj (hlit.symm.trans hoi)
      have r0 : b.tmps.getD 0 undef = (.int .i64 aa) := rd ((hT.old 0 (by kernel_rfl)).trans t0)
      refine op_go hoi (want_yes rfl (d := 64) (by kernel_rfl) (hT.at 20 (by kernel_rfl) (pre_of hpre 20 (by kernel_rfl)))) fun K hK => ?_
      clear hT hpre hun hlit hoi
      go_simp
      exact hK _ _ ⟨(), fun _ _ => rfl, rfl, sc0, sc1, pc0, pc1, HB⟩
    · have hlit : (regOps Tryd.f4 5)[22]? = some ({ dst := some 66, op := Op.move (Operand.tmp 1), type := 3, pos := "law.go:58", after := #[{ on := 20, ground := Ground.guard }], guard := some (20, true) }) := by kernel_rfl
      obtain rfl := Option.some.inj (hlit.symm.trans hoi)
      have r1 : b.tmps.getD 1 undef = (.int .i64 bb) := rd ((hT.old 1 (by kernel_rfl)).trans t1)
      refine op_go hoi (want_yes rfl (d := 64) (by kernel_rfl) (hT.at 20 (by kernel_rfl) (pre_of hpre 20 (by kernel_rfl)))) fun K hK => ?_
      clear hT hpre hun hlit hoi
      go_simp
      exact hK _ _ ⟨(), fun _ _ => rfl, rfl, sc0, sc1, pc0, pc1, HB⟩
    · have hlit : (regOps Tryd.f4 5)[23]? = some ({ dst := some 67, op := Op.call { callee := Callee.value (Operand.func 12), args := #[Operand.tmp 65, Operand.tmp 66], argTypes := #[3, 3] }, type := 24, pos := "law.go:58", after := #[{ on := 21, ground := Ground.data }, { on := 22, ground := Ground.data }, { on := 20, ground := Ground.chain }, { on := 20, ground := Ground.guard }], guard := some (20, true) }) := by kernel_rfl
      obtain rfl := Option.some.inj (hlit.symm.trans hoi)
      have r65 : b.tmps.getD 65 undef = (.int .i64 aa) := rd (hT.at 21 (by kernel_rfl) (pre_of hpre 21 (by kernel_rfl)))
      have r66 : b.tmps.getD 66 undef = (.int .i64 bb) := rd (hT.at 22 (by kernel_rfl) (pre_of hpre 22 (by kernel_rfl)))
      refine op_go hoi (want_yes rfl (d := 64) (by kernel_rfl) (hT.at 20 (by kernel_rfl) (pre_of hpre 20 (by kernel_rfl)))) fun K hK => ?_
      clear hT hpre hun hlit hoi
      go_simp
      go_at_call 12
      refine (m4 _).mono ?_; rintro e w2 ⟨rfl, hb⟩; replace sc0 := ck hb (a := ⟨ks, 0, none⟩) (v := .int .i64 s0) (by go_simp); replace sc1 := ck hb (a := ⟨ks, 1, none⟩) (v := .int .u64 s1) (by go_simp); replace pc0 := ck hb (a := ⟨kp, 0, none⟩) (v := .int .i64 p0) (by go_simp); replace pc1 := ck hb (a := ⟨kp, 1, none⟩) (v := .int .u64 p1) (by go_simp); replace HB : Below W.heap.size W w2 := bt HB hb; clear hb
      exact hK _ _ ⟨(), fun _ _ => rfl, rfl, sc0, sc1, pc0, pc1, HB⟩
    · have hlit : (regOps Tryd.f4 5)[24]? = some ({ dst := some 68, op := Op.call { callee := Callee.value (Operand.func 15), args := #[Operand.tmp 67], argTypes := #[24] }, type := 3, pos := "law.go:58", after := #[{ on := 23, ground := Ground.data }, { on := 23, ground := Ground.chain }, { on := 20, ground := Ground.guard }], guard := some (20, true) }) := by kernel_rfl
      obtain rfl := Option.some.inj (hlit.symm.trans hoi)
      have r67 : b.tmps.getD 67 undef = (.agg #[.int .i64 p0, .int .u64 p1]) := rd (hT.at 23 (by kernel_rfl) (pre_of hpre 23 (by kernel_rfl)))
      refine op_go hoi (want_yes rfl (d := 64) (by kernel_rfl) (hT.at 20 (by kernel_rfl) (pre_of hpre 20 (by kernel_rfl)))) fun K hK => ?_
      clear hT hpre hun hlit hoi
      go_simp
      go_at_call 15
      refine (m5 _).mono ?_; rintro e w2 ⟨rfl, hb⟩; replace sc0 := ck hb (a := ⟨ks, 0, none⟩) (v := .int .i64 s0) (by go_simp); replace sc1 := ck hb (a := ⟨ks, 1, none⟩) (v := .int .u64 s1) (by go_simp); replace pc0 := ck hb (a := ⟨kp, 0, none⟩) (v := .int .i64 p0) (by go_simp); replace pc1 := ck hb (a := ⟨kp, 1, none⟩) (v := .int .u64 p1) (by go_simp); replace HB : Below W.heap.size W w2 := bt HB hb; clear hb
      exact hK _ _ ⟨(), fun _ _ => rfl, rfl, sc0, sc1, pc0, pc1, HB⟩
    · have hlit : (regOps Tryd.f4 5)[25]? = some ({ dst := some 69, op := Op.binOp BinOp.eql 3 (Operand.tmp 68) (Operand.const (Value.int IntKind.i64 0)) 3, type := 4, pos := "law.go:58", after := #[{ on := 24, ground := Ground.data }, { on := 20, ground := Ground.guard }], guard := some (20, true) }) := by kernel_rfl
      obtain rfl := Option.some.inj (hlit.symm.trans hoi)
      have r68 : b.tmps.getD 68 undef = (.int .i64 sg) := rd (hT.at 24 (by kernel_rfl) (pre_of hpre 24 (by kernel_rfl)))
      refine op_go hoi (want_yes rfl (d := 64) (by kernel_rfl) (hT.at 20 (by kernel_rfl) (pre_of hpre 20 (by kernel_rfl)))) fun K hK => ?_
      clear hT hpre hun hlit hoi
      go_simp
      exact hK _ _ ⟨(), fun _ _ => rfl, rfl, sc0, sc1, pc0, pc1, HB⟩
    · have hlit : (regOps Tryd.f4 5)[26]? = some ({ dst := some 70, op := Op.move (Operand.tmp 0), type := 3, pos := "law.go:58", after := #[{ on := 20, ground := Ground.guard }], guard := some (20, true) }) := by kernel_rfl
      obtain rfl := Option.some.inj (hlit.symm.trans hoi)
      have r0 : b.tmps.getD 0 undef = (.int .i64 aa) := rd ((hT.old 0 (by kernel_rfl)).trans t0)
      refine op_go hoi (want_yes rfl (d := 64) (by kernel_rfl) (hT.at 20 (by kernel_rfl) (pre_of hpre 20 (by kernel_rfl)))) fun K hK => ?_
      clear hT hpre hun hlit hoi
      go_simp
      exact hK _ _ ⟨(), fun _ _ => rfl, rfl, sc0, sc1, pc0, pc1, HB⟩
    · have hlit : (regOps Tryd.f4 5)[27]? = some ({ dst := some 71, op := Op.binOp BinOp.eql 3 (Operand.tmp 70) (Operand.const (Value.int IntKind.i64 0)) 3, type := 4, pos := "law.go:58", after := #[{ on := 26, ground := Ground.data }, { on := 20, ground := Ground.guard }], guard := some (20, true) }) := by kernel_rfl
      obtain rfl := Option.some.inj (hlit.symm.trans hoi)
      have r70 : b.tmps.getD 70 undef = (.int .i64 aa) := rd (hT.at 26 (by kernel_rfl) (pre_of hpre 26 (by kernel_rfl)))
      refine op_go hoi (want_yes rfl (d := 64) (by kernel_rfl) (hT.at 20 (by kernel_rfl) (pre_of hpre 20 (by kernel_rfl)))) fun K hK => ?_
      clear hT hpre hun hlit hoi
      go_simp
      exact hK _ _ ⟨(), fun _ _ => rfl, rfl, sc0, sc1, pc0, pc1, HB⟩
    · have hlit : (regOps Tryd.f4 5)[28]? = some ({ dst := some 72, op := Op.move (Operand.tmp 71), type := 4, pos := "law.go:58", after := #[{ on := 27, ground := Ground.data }, { on := 24, ground := Ground.chain }, { on := 20, ground := Ground.guard }], guard := some (20, true) }) := by kernel_rfl
      obtain rfl := Option.some.inj (hlit.symm.trans hoi)
      have r71 : b.tmps.getD 71 undef = (.bool true) := rd (hT.at 27 (by kernel_rfl) (pre_of hpre 27 (by kernel_rfl)))
      refine op_go hoi (want_yes rfl (d := 64) (by kernel_rfl) (hT.at 20 (by kernel_rfl) (pre_of hpre 20 (by kernel_rfl)))) fun K hK => ?_
      clear hT hpre hun hlit hoi
      go_simp
      exact hK _ _ ⟨(), fun _ _ => rfl, rfl, sc0, sc1, pc0, pc1, HB⟩
    · have hlit : (regOps Tryd.f4 5)[29]? = some ({ dst := some 73, op := Op.move (Operand.tmp 1), type := 3, pos := "law.go:58", after := #[{ on := 28, ground := Ground.guard }], guard := some (28, false) }) := by kernel_rfl
      obtain rfl := Option.some.inj (hlit.symm.trans hoi)
      exact op_not hoi (want_no rfl (d := 72) (by kernel_rfl) (hT.at 28 (by kernel_rfl) (pre_of hpre 28 (by kernel_rfl)))) ⟨(), fun _ _ => rfl, rfl, sc0, sc1, pc0, pc1, HB⟩
    · have hlit : (regOps Tryd.f4 5)[30]? = some ({ dst := some 74, op := Op.binOp BinOp.eql 3 (Operand.tmp 73) (Operand.const (Value.int IntKind.i64 0)) 3, type := 4, pos := "law.go:58", after := #[{ on := 29, ground := Ground.data }, { on := 28, ground := Ground.guard }], guard := some (28, false) }) := by kernel_rfl
      obtain rfl := Option.some.inj (hlit.symm.trans hoi)
      exact op_not hoi (want_no rfl (d := 72) (by kernel_rfl) (hT.at 28 (by kernel_rfl) (pre_of hpre 28 (by kernel_rfl)))) ⟨(), fun _ _ => rfl, rfl, sc0, sc1, pc0, pc1, HB⟩
    · have hlit : (regOps Tryd.f4 5)[31]? = some ({ dst := some 75, op := Op.pick (Operand.tmp 72) (Operand.const (Value.bool true)) (Operand.tmp 74), type := 4, pos := "law.go:58", after := #[{ on := 28, ground := Ground.data }, { on := 30, ground := Ground.data }, { on := 20, ground := Ground.guard }], guard := some (20, true) }) := by kernel_rfl
      obtain rfl := Option.some.inj (hlit.symm.trans hoi)
      have r72 : b.tmps.getD 72 undef = (.bool true) := rd (hT.at 28 (by kernel_rfl) (pre_of hpre 28 (by kernel_rfl)))
      have r74 : b.tmps.getD 74 undef = (undef) := rd (hT.at 30 (by kernel_rfl) (pre_of hpre 30 (by kernel_rfl)))
      refine op_go hoi (want_yes rfl (d := 64) (by kernel_rfl) (hT.at 20 (by kernel_rfl) (pre_of hpre 20 (by kernel_rfl)))) fun K hK => ?_
      clear hT hpre hun hlit hoi
      go_simp
      exact hK _ _ ⟨(), fun _ _ => rfl, rfl, sc0, sc1, pc0, pc1, HB⟩
    · have hlit : (regOps Tryd.f4 5)[32]? = some ({ dst := some 76, op := Op.binOp BinOp.eql 4 (Operand.tmp 69) (Operand.tmp 75) 4, type := 4, pos := "law.go:58", after := #[{ on := 25, ground := Ground.data }, { on := 31, ground := Ground.data }, { on := 20, ground := Ground.guard }], guard := some (20, true) }) := by kernel_rfl
      obtain rfl := Option.some.inj (hlit.symm.trans hoi)
      have r69 : b.tmps.getD 69 undef = (.bool true) := rd (hT.at 25 (by kernel_rfl) (pre_of hpre 25 (by kernel_rfl)))
      have r75 : b.tmps.getD 75 undef = (.bool true) := rd (hT.at 31 (by kernel_rfl) (pre_of hpre 31 (by kernel_rfl)))
      refine op_go hoi (want_yes rfl (d := 64) (by kernel_rfl) (hT.at 20 (by kernel_rfl) (pre_of hpre 20 (by kernel_rfl)))) fun K hK => ?_
      clear hT hpre hun hlit hoi
      go_simp
      exact hK _ _ ⟨(), fun _ _ => rfl, rfl, sc0, sc1, pc0, pc1, HB⟩
    · have hlit : (regOps Tryd.f4 5)[33]? = some ({ dst := some 77, op := Op.pick (Operand.tmp 64) (Operand.tmp 76) (Operand.const (Value.bool false)), type := 4, pos := "law.go:58", after := #[{ on := 20, ground := Ground.data }, { on := 32, ground := Ground.data }], guard := none }) := by kernel_rfl
      obtain rfl := Option.some.inj (hlit.symm.trans hoi)
      have r64 : b.tmps.getD 64 undef = (.bool true) := rd (hT.at 20 (by kernel_rfl) (pre_of hpre 20 (by kernel_rfl)))
      have r76 : b.tmps.getD 76 undef = (.bool true) := rd (hT.at 32 (by kernel_rfl) (pre_of hpre 32 (by kernel_rfl)))
      refine op_go hoi (want_all rfl) fun K hK => ?_
      clear hT hpre hun hlit hoi
      go_simp
      exact hK _ _ ⟨(), fun _ _ => rfl, rfl, sc0, sc1, pc0, pc1, HB⟩
    · have hlit : (regOps Tryd.f4 5)[34]? = some ({ dst := some 78, op := Op.move (Operand.tmp 77), type := 4, pos := "law.go:58", after := #[{ on := 33, ground := Ground.data }, { on := 28, ground := Ground.chain }], guard := none }) := by kernel_rfl
      obtain rfl := Option.some.inj (hlit.symm.trans hoi)
      have r77 : b.tmps.getD 77 undef = (.bool true) := rd (hT.at 33 (by kernel_rfl) (pre_of hpre 33 (by kernel_rfl)))
      refine op_go hoi (want_all rfl) fun K hK => ?_
      clear hT hpre hun hlit hoi
      go_simp
      exact hK _ _ ⟨(), fun _ _ => rfl, rfl, sc0, sc1, pc0, pc1, HB⟩
    · have hlit : (regOps Tryd.f4 5)[35]? = some ({ dst := some 79, op := Op.call { callee := Callee.value (Operand.func 9), args := #[], argTypes := #[] }, type := 4, pos := "law.go:58", after := #[{ on := 34, ground := Ground.chain }, { on := 34, ground := Ground.guard }], guard := some (34, true) }) := by kernel_rfl
      obtain rfl := Option.some.inj (hlit.symm.trans hoi)
      refine op_go hoi (want_yes rfl (d := 78) (by kernel_rfl) (hT.at 34 (by kernel_rfl) (pre_of hpre 34 (by kernel_rfl)))) fun K hK => ?_
      clear hT hpre hun hlit hoi
      go_simp
      go_at_call 9
      refine (awake9 _ (tab_below htab HB)).mono ?_; rintro e w2 ⟨rfl, hb⟩; replace sc0 := ck hb (a := ⟨ks, 0, none⟩) (v := .int .i64 s0) (by go_simp); replace sc1 := ck hb (a := ⟨ks, 1, none⟩) (v := .int .u64 s1) (by go_simp); replace pc0 := ck hb (a := ⟨kp, 0, none⟩) (v := .int .i64 p0) (by go_simp); replace pc1 := ck hb (a := ⟨kp, 1, none⟩) (v := .int .u64 p1) (by go_simp); replace HB : Below W.heap.size W w2 := bt HB hb; clear hb
      exact hK _ _ ⟨(), fun _ _ => rfl, rfl, sc0, sc1, pc0, pc1, HB⟩
    · have hlit : (regOps Tryd.f4 5)[36]? = some ({ dst := some 80, op := Op.pick (Operand.tmp 78) (Operand.tmp 79) (Operand.const (Value.bool false)), type := 4, pos := "law.go:58", after := #[{ on := 34, ground := Ground.data }, { on := 35, ground := Ground.data }], guard := none }) := by kernel_rfl
      obtain rfl := Option.some.inj (hlit.symm.trans hoi)
      have r78 : b.tmps.getD 78 undef = (.bool true) := rd (hT.at 34 (by kernel_rfl) (pre_of hpre 34 (by kernel_rfl)))
      have r79 : b.tmps.getD 79 undef = (.bool true) := rd (hT.at 35 (by kernel_rfl) (pre_of hpre 35 (by kernel_rfl)))
      refine op_go hoi (want_all rfl) fun K hK => ?_
      clear hT hpre hun hlit hoi
      go_simp
      exact hK _ _ ⟨(), fun _ _ => rfl, rfl, sc0, sc1, pc0, pc1, HB⟩
    · have hlit : (regOps Tryd.f4 5)[37]? = some ({ dst := some 6, op := Op.assign (Operand.tmp 80), type := 4, pos := "law.go:58", after := #[{ on := 36, ground := Ground.data }, { on := 35, ground := Ground.chain }, { on := 0, ground := Ground.phase }, { on := 1, ground := Ground.phase }, { on := 2, ground := Ground.phase }, { on := 3, ground := Ground.phase }, { on := 4, ground := Ground.phase }, { on := 5, ground := Ground.phase }, { on := 6, ground := Ground.phase }, { on := 7, ground := Ground.phase }, { on := 8, ground := Ground.phase }, { on := 9, ground := Ground.phase }, { on := 10, ground := Ground.phase }, { on := 11, ground := Ground.phase }, { on := 12, ground := Ground.phase }, { on := 13, ground := Ground.phase }, { on := 14, ground := Ground.phase }, { on := 15, ground := Ground.phase }, { on := 16, ground := Ground.phase }, { on := 17, ground := Ground.phase }, { on := 18, ground := Ground.phase }, { on := 19, ground := Ground.phase }, { on := 20, ground := Ground.phase }, { on := 21, ground := Ground.phase }, { on := 22, ground := Ground.phase }, { on := 23, ground := Ground.phase }, { on := 24, ground := Ground.phase }, { on := 25, ground := Ground.phase }, { on := 26, ground := Ground.phase }, { on := 27, ground := Ground.phase }, { on := 28, ground := Ground.phase }, { on := 29, ground := Ground.phase }, { on := 30, ground := Ground.phase }, { on := 31, ground := Ground.phase }, { on := 32, ground := Ground.phase }, { on := 33, ground := Ground.phase }, { on := 34, ground := Ground.phase }, { on := 35, ground := Ground.phase }, { on := 36, ground := Ground.phase }], guard := none }) := by kernel_rfl
      obtain rfl := Option.some.inj (hlit.symm.trans hoi)
      have r80 : b.tmps.getD 80 undef = (.bool true) := rd (hT.at 36 (by kernel_rfl) (pre_of hpre 36 (by kernel_rfl)))
      refine op_go hoi (want_all rfl) fun K hK => ?_
      clear hT hpre hun hlit hoi
      go_simp
      exact hK _ _ ⟨(), fun _ _ => rfl, rfl, sc0, sc1, pc0, pc1, HB⟩
  · intro g b w' hT hS
    rw [hT.all ht]
    have hn : (regOps Tryd.f4 5).size = 38 := by kernel_rfl
    rw [hn]
    exact he w' hS
end Go.Proofs.YtkamnnkdadfebaaDoor
