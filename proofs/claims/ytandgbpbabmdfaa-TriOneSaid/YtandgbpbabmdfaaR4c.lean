import Derived.Test.YtandgbpbabmdfaaRh
import Derived.Laws.Tables
namespace Go.Proofs.Ytandgbpbabmdfaa
open Go.RowKit
attribute [local go_sem high] eq23 eq25 mn_two mx_two mn_three mx_three mx_four

theorem alloc_last (w : World) (x : Obj) : (w.alloc x).heap[w.heap.size]? = some x := by
  show (w.heap.push x)[w.heap.size]? = some x
  exact Array.getElem?_push_size
theorem alloc_setRow (w : World) (x y : Array Value) (t : TypeId) : (w.alloc (.cells x t)).setRow w.heap.size y = w.alloc (.cells y t) := by
  unfold World.setRow World.alloc
  congr 1
  apply Array.ext
  · simp
  · intro k h1 h2
    simp only [Array.getElem_modify, Array.getElem_push]
    by_cases hk : k < w.heap.size
    · simp [hk, Nat.ne_of_gt hk]
    · have : k = w.heap.size := by simp at h1; omega
      simp [this]

theorem wpOp_mono' {P : Program} {ops : Array Oper} {Q : Exit → Act → World → Prop} {i : Nat} {K K' : Act → World → Prop} (h : ∀ a w, K a w → K' a w) {a : Act} {w : World} (h' : wpOp P ops Q i K a w) : wpOp P ops Q i K' a w := wpOp_mono h h'

/-- A region that does not draw, by a table. -/
theorem region_seq {P : Program} {ops : Array Oper} {Q : Exit → Act → World → Prop} {id : Nat} {ops' : Array Oper} {a : Act} {w : World} (V : Nat → Value) (S : Nat → World → Prop)
    (ho : ops' = ops) (ht : tidy ops a.tmps.size = true) (h0 : S 0 w)
    (hs : ∀ i o, ops[i]? = some o → ∀ b w', Told ops V a (fun j => decide (j < i)) b → S i w' → wpOp P ops Q i (fun b' w'' => b' = b.put o.dst (V i) ∧ S (i + 1) w'') b w')
    (he : ∀ b w', Told ops V a (fun j => decide (j < ops.size)) b → S ops.size w' → Q .normal b w') : (Code.region id ops' false).wp P Q a w := by
  subst ho
  refine wp_region ?_
  have key : ∀ (n i : Nat) (b : Act) (w' : World), i + n = ops'.size → Told ops' V a (fun j => decide (j < i)) b → S i w' → wpOps P ops' Q (List.range' i n) b w' := by
    intro n
    induction n with
    | zero =>
      intro i b w' hi hT hS
      obtain rfl : i = ops'.size := by omega
      exact he b w' hT hS
    | succ n ih =>
      intro i b w' hi hT hS
      have hlt : i < ops'.size := by omega
      have hoi : ops'[i]? = some ops'[i] := Array.getElem?_eq_some_iff.2 ⟨hlt, rfl⟩
      rw [List.range'_succ, wpOps_cons]
      refine wpOp_mono' (fun b' w'' hh => ?_) (hs i _ hoi b w' hT hS)
      obtain ⟨rfl, hS'⟩ := hh
      refine ih (i + 1) _ _ (by omega) (hT.put ht hoi (fun j hj => ?_) (fun _ _ => rfl)) hS'
      have := of_decide_eq_true hj
      by_cases hji : j = i
      · exact .inl hji
      · exact .inr (decide_eq_true (by omega))
  rw [List.range_eq_range']
  exact key ops'.size 0 a w (by omega) ⟨rfl, rfl, fun _ _ => rfl, fun i o d _ _ hl => by cases hl⟩ h0

/-- What each operation of the region leaves. -/
def region4_2V (a0 a1 b0 b1 c0 c1 : Int) (kl : Nat) : Nat → Value
  | 0 => .agg #[.int .i64 a0, .int .i64 a1]
  | 1 => .agg #[.int .i64 c0, .int .i64 c1]
  | 2 => .agg #[.int .i64 b0, .int .i64 b1]
  | 3 => .agg #[.int .i64 a0, .int .i64 a1, .int .i64 c0, .int .i64 c1, .int .i64 b0, .int .i64 b1]
  | 4 => .agg #[.int .i64 b0, .int .i64 b1]
  | 5 => .agg #[.int .i64 a0, .int .i64 a1]
  | 6 => .agg #[.int .i64 c0, .int .i64 c1]
  | 7 => .agg #[.int .i64 b0, .int .i64 b1, .int .i64 a0, .int .i64 a1, .int .i64 c0, .int .i64 c1]
  | 8 => .agg #[.int .i64 b0, .int .i64 b1]
  | 9 => .agg #[.int .i64 c0, .int .i64 c1]
  | 10 => .agg #[.int .i64 a0, .int .i64 a1]
  | 11 => .agg #[.int .i64 b0, .int .i64 b1, .int .i64 c0, .int .i64 c1, .int .i64 a0, .int .i64 a1]
  | 12 => .agg #[.int .i64 c0, .int .i64 c1]
  | 13 => .agg #[.int .i64 a0, .int .i64 a1]
  | 14 => .agg #[.int .i64 b0, .int .i64 b1]
  | 15 => .agg #[.int .i64 c0, .int .i64 c1, .int .i64 a0, .int .i64 a1, .int .i64 b0, .int .i64 b1]
  | 16 => .agg #[.int .i64 c0, .int .i64 c1]
  | 17 => .agg #[.int .i64 b0, .int .i64 b1]
  | 18 => .agg #[.int .i64 a0, .int .i64 a1]
  | 19 => .agg #[.int .i64 c0, .int .i64 c1, .int .i64 b0, .int .i64 b1, .int .i64 a0, .int .i64 a1]
  | 20 => .agg #[.int .i64 a0, .int .i64 a1, .int .i64 c0, .int .i64 c1, .int .i64 b0, .int .i64 b1, .int .i64 b0, .int .i64 b1, .int .i64 a0, .int .i64 a1, .int .i64 c0, .int .i64 c1, .int .i64 b0, .int .i64 b1, .int .i64 c0, .int .i64 c1, .int .i64 a0, .int .i64 a1, .int .i64 c0, .int .i64 c1, .int .i64 a0, .int .i64 a1, .int .i64 b0, .int .i64 b1, .int .i64 c0, .int .i64 c1, .int .i64 b0, .int .i64 b1, .int .i64 a0, .int .i64 a1]
  | 21 => .pointer (some ⟨kl, 0, none⟩)
  | 22 => undef
  | _ => undef

set_option maxHeartbeats 4000000 in
set_option maxRecDepth 100000 in
theorem region4_2 (a0 a1 b0 b1 c0 c1 : Int) (ka kb kc : Nat) {id : Nat} {ops : Array Oper} {Q : Exit → Act → World → Prop} {a : Act} {w : World}
    (ho : ops = (regOps Try.f4 2)) (hsz : a.tmps.size = 151) (t3 : a.tmps[3]? = some (.pointer (some ⟨ka, 0, none⟩))) (t4 : a.tmps[4]? = some (.pointer (some ⟨kb, 0, none⟩))) (t5 : a.tmps[5]? = some (.pointer (some ⟨kc, 0, none⟩))) (ac0 : w.cell? ⟨ka, 0, none⟩ = some (.int .i64 a0)) (ac1 : w.cell? ⟨ka, 1, none⟩ = some (.int .i64 a1)) (bc0 : w.cell? ⟨kb, 0, none⟩ = some (.int .i64 b0)) (bc1 : w.cell? ⟨kb, 1, none⟩ = some (.int .i64 b1)) (cc0 : w.cell? ⟨kc, 0, none⟩ = some (.int .i64 c0)) (cc1 : w.cell? ⟨kc, 1, none⟩ = some (.int .i64 c1))
    (he : ∀ kl w', kl = w.heap.size → w' = w.alloc (.cells #[.int .i64 a0, .int .i64 a1, .int .i64 c0, .int .i64 c1, .int .i64 b0, .int .i64 b1, .int .i64 b0, .int .i64 b1, .int .i64 a0, .int .i64 a1, .int .i64 c0, .int .i64 c1, .int .i64 b0, .int .i64 b1, .int .i64 c0, .int .i64 c1, .int .i64 a0, .int .i64 a1, .int .i64 c0, .int .i64 c1, .int .i64 a0, .int .i64 a1, .int .i64 b0, .int .i64 b1, .int .i64 c0, .int .i64 c1, .int .i64 b0, .int .i64 b1, .int .i64 a0, .int .i64 a1] 39) → Q .normal ⟨((((((((((((((((((((((a.tmps.setIfInBounds 24 (.agg #[.int .i64 a0, .int .i64 a1])).setIfInBounds 25 (.agg #[.int .i64 c0, .int .i64 c1])).setIfInBounds 26 (.agg #[.int .i64 b0, .int .i64 b1])).setIfInBounds 27 (.agg #[.int .i64 a0, .int .i64 a1, .int .i64 c0, .int .i64 c1, .int .i64 b0, .int .i64 b1])).setIfInBounds 28 (.agg #[.int .i64 b0, .int .i64 b1])).setIfInBounds 29 (.agg #[.int .i64 a0, .int .i64 a1])).setIfInBounds 30 (.agg #[.int .i64 c0, .int .i64 c1])).setIfInBounds 31 (.agg #[.int .i64 b0, .int .i64 b1, .int .i64 a0, .int .i64 a1, .int .i64 c0, .int .i64 c1])).setIfInBounds 32 (.agg #[.int .i64 b0, .int .i64 b1])).setIfInBounds 33 (.agg #[.int .i64 c0, .int .i64 c1])).setIfInBounds 34 (.agg #[.int .i64 a0, .int .i64 a1])).setIfInBounds 35 (.agg #[.int .i64 b0, .int .i64 b1, .int .i64 c0, .int .i64 c1, .int .i64 a0, .int .i64 a1])).setIfInBounds 36 (.agg #[.int .i64 c0, .int .i64 c1])).setIfInBounds 37 (.agg #[.int .i64 a0, .int .i64 a1])).setIfInBounds 38 (.agg #[.int .i64 b0, .int .i64 b1])).setIfInBounds 39 (.agg #[.int .i64 c0, .int .i64 c1, .int .i64 a0, .int .i64 a1, .int .i64 b0, .int .i64 b1])).setIfInBounds 40 (.agg #[.int .i64 c0, .int .i64 c1])).setIfInBounds 41 (.agg #[.int .i64 b0, .int .i64 b1])).setIfInBounds 42 (.agg #[.int .i64 a0, .int .i64 a1])).setIfInBounds 43 (.agg #[.int .i64 c0, .int .i64 c1, .int .i64 b0, .int .i64 b1, .int .i64 a0, .int .i64 a1])).setIfInBounds 44 (.agg #[.int .i64 a0, .int .i64 a1, .int .i64 c0, .int .i64 c1, .int .i64 b0, .int .i64 b1, .int .i64 b0, .int .i64 b1, .int .i64 a0, .int .i64 a1, .int .i64 c0, .int .i64 c1, .int .i64 b0, .int .i64 b1, .int .i64 c0, .int .i64 c1, .int .i64 a0, .int .i64 a1, .int .i64 c0, .int .i64 c1, .int .i64 a0, .int .i64 a1, .int .i64 b0, .int .i64 b1, .int .i64 c0, .int .i64 c1, .int .i64 b0, .int .i64 b1, .int .i64 a0, .int .i64 a1])).setIfInBounds 9 (.pointer (some ⟨kl, 0, none⟩))), a.defers⟩ w') :
    (Code.region id ops false).wp Try.prog Q a w := by
  have ht : tidy (regOps Try.f4 2) a.tmps.size = true := by rw [hsz]; kernel_rfl
  refine region_seq (region4_2V a0 a1 b0 b1 c0 c1 w.heap.size) (fun i w' => w' = if i < 22 then w else if i < 23 then (w.alloc (.cells (Array.replicate 30 (.int .i64 0)) 39)) else ((w.alloc (.cells (Array.replicate 30 (.int .i64 0)) 39)).setRow w.heap.size #[.int .i64 a0, .int .i64 a1, .int .i64 c0, .int .i64 c1, .int .i64 b0, .int .i64 b1, .int .i64 b0, .int .i64 b1, .int .i64 a0, .int .i64 a1, .int .i64 c0, .int .i64 c1, .int .i64 b0, .int .i64 b1, .int .i64 c0, .int .i64 c1, .int .i64 a0, .int .i64 a1, .int .i64 c0, .int .i64 c1, .int .i64 a0, .int .i64 a1, .int .i64 b0, .int .i64 b1, .int .i64 c0, .int .i64 c1, .int .i64 b0, .int .i64 b1, .int .i64 a0, .int .i64 a1])) ho ht rfl ?_ ?_
  · intro i o hoi b w' hT hS
    clear he ho hsz ht
    have hi : i < (regOps Try.f4 2).size := (Array.getElem?_eq_some_iff.1 hoi).1
    rw [show (regOps Try.f4 2).size = 23 by kernel_rfl] at hi
    have hcases : i = 0 ∨ i = 1 ∨ i = 2 ∨ i = 3 ∨ i = 4 ∨ i = 5 ∨ i = 6 ∨ i = 7 ∨ i = 8 ∨ i = 9 ∨ i = 10 ∨ i = 11 ∨ i = 12 ∨ i = 13 ∨ i = 14 ∨ i = 15 ∨ i = 16 ∨ i = 17 ∨ i = 18 ∨ i = 19 ∨ i = 20 ∨ i = 21 ∨ i = 22 := by omega
    rcases hcases with rfl | rfl | rfl | rfl | rfl | rfl | rfl | rfl | rfl | rfl | rfl | rfl | rfl | rfl | rfl | rfl | rfl | rfl | rfl | rfl | rfl | rfl | rfl
    · have hlit : (regOps Try.f4 2)[0]? = some ({ dst := some 24, op := Op.load 23 (Operand.tmp 3), type := 23, pos := "law.go:31", after := #[], guard := none }) := by kernel_rfl
      obtain rfl := Option.some.inj (hlit.symm.trans hoi)
      obtain rfl : w' = w := hS
      have r3 : b.tmps.getD 3 undef = (.pointer (some ⟨ka, 0, none⟩)) := rd ((hT.old 3 (by kernel_rfl)).trans t3)
      refine op_go hoi (want_all rfl) fun K hK => ?_
      clear hT hlit hoi
      go_simp
      exact hK _ _ ⟨rfl, rfl⟩
    · have hlit : (regOps Try.f4 2)[1]? = some ({ dst := some 25, op := Op.load 23 (Operand.tmp 5), type := 23, pos := "law.go:31", after := #[], guard := none }) := by kernel_rfl
      obtain rfl := Option.some.inj (hlit.symm.trans hoi)
      obtain rfl : w' = w := hS
      have r5 : b.tmps.getD 5 undef = (.pointer (some ⟨kc, 0, none⟩)) := rd ((hT.old 5 (by kernel_rfl)).trans t5)
      refine op_go hoi (want_all rfl) fun K hK => ?_
      clear hT hlit hoi
      go_simp
      exact hK _ _ ⟨rfl, rfl⟩
    · have hlit : (regOps Try.f4 2)[2]? = some ({ dst := some 26, op := Op.load 23 (Operand.tmp 4), type := 23, pos := "law.go:31", after := #[], guard := none }) := by kernel_rfl
      obtain rfl := Option.some.inj (hlit.symm.trans hoi)
      obtain rfl : w' = w := hS
      have r4 : b.tmps.getD 4 undef = (.pointer (some ⟨kb, 0, none⟩)) := rd ((hT.old 4 (by kernel_rfl)).trans t4)
      refine op_go hoi (want_all rfl) fun K hK => ?_
      clear hT hlit hoi
      go_simp
      exact hK _ _ ⟨rfl, rfl⟩
    · have hlit : (regOps Try.f4 2)[3]? = some ({ dst := some 27, op := Op.build 38 #[(0, Operand.tmp 24), (1, Operand.tmp 25), (2, Operand.tmp 26)], type := 38, pos := "law.go:31", after := #[{ on := 0, ground := Ground.data }, { on := 1, ground := Ground.data }, { on := 2, ground := Ground.data }], guard := none }) := by kernel_rfl
      obtain rfl := Option.some.inj (hlit.symm.trans hoi)
      obtain rfl : w' = w := hS
      have r24 : b.tmps.getD 24 undef = (.agg #[.int .i64 a0, .int .i64 a1]) := rd (hT.at 0 (by kernel_rfl) (by decide))
      have q24 : b.tmps[24]?.getD undef = (.agg #[.int .i64 a0, .int .i64 a1]) := (Array.getD_eq_getD_getElem? ..).symm.trans r24
      have r25 : b.tmps.getD 25 undef = (.agg #[.int .i64 c0, .int .i64 c1]) := rd (hT.at 1 (by kernel_rfl) (by decide))
      have q25 : b.tmps[25]?.getD undef = (.agg #[.int .i64 c0, .int .i64 c1]) := (Array.getD_eq_getD_getElem? ..).symm.trans r25
      have r26 : b.tmps.getD 26 undef = (.agg #[.int .i64 b0, .int .i64 b1]) := rd (hT.at 2 (by kernel_rfl) (by decide))
      have q26 : b.tmps[26]?.getD undef = (.agg #[.int .i64 b0, .int .i64 b1]) := (Array.getD_eq_getD_getElem? ..).symm.trans r26
      refine op_go hoi (want_all rfl) fun K hK => ?_
      clear hT hlit hoi
      go_simp
      exact hK _ _ ⟨rfl, rfl⟩
    · have hlit : (regOps Try.f4 2)[4]? = some ({ dst := some 28, op := Op.load 23 (Operand.tmp 4), type := 23, pos := "law.go:31", after := #[], guard := none }) := by kernel_rfl
      obtain rfl := Option.some.inj (hlit.symm.trans hoi)
      obtain rfl : w' = w := hS
      have r4 : b.tmps.getD 4 undef = (.pointer (some ⟨kb, 0, none⟩)) := rd ((hT.old 4 (by kernel_rfl)).trans t4)
      refine op_go hoi (want_all rfl) fun K hK => ?_
      clear hT hlit hoi
      go_simp
      exact hK _ _ ⟨rfl, rfl⟩
    · have hlit : (regOps Try.f4 2)[5]? = some ({ dst := some 29, op := Op.load 23 (Operand.tmp 3), type := 23, pos := "law.go:31", after := #[], guard := none }) := by kernel_rfl
      obtain rfl := Option.some.inj (hlit.symm.trans hoi)
      obtain rfl : w' = w := hS
      have r3 : b.tmps.getD 3 undef = (.pointer (some ⟨ka, 0, none⟩)) := rd ((hT.old 3 (by kernel_rfl)).trans t3)
      refine op_go hoi (want_all rfl) fun K hK => ?_
      clear hT hlit hoi
      go_simp
      exact hK _ _ ⟨rfl, rfl⟩
    · have hlit : (regOps Try.f4 2)[6]? = some ({ dst := some 30, op := Op.load 23 (Operand.tmp 5), type := 23, pos := "law.go:31", after := #[], guard := none }) := by kernel_rfl
      obtain rfl := Option.some.inj (hlit.symm.trans hoi)
      obtain rfl : w' = w := hS
      have r5 : b.tmps.getD 5 undef = (.pointer (some ⟨kc, 0, none⟩)) := rd ((hT.old 5 (by kernel_rfl)).trans t5)
      refine op_go hoi (want_all rfl) fun K hK => ?_
      clear hT hlit hoi
      go_simp
      exact hK _ _ ⟨rfl, rfl⟩
    · have hlit : (regOps Try.f4 2)[7]? = some ({ dst := some 31, op := Op.build 38 #[(0, Operand.tmp 28), (1, Operand.tmp 29), (2, Operand.tmp 30)], type := 38, pos := "law.go:31", after := #[{ on := 4, ground := Ground.data }, { on := 5, ground := Ground.data }, { on := 6, ground := Ground.data }], guard := none }) := by kernel_rfl
      obtain rfl := Option.some.inj (hlit.symm.trans hoi)
      obtain rfl : w' = w := hS
      have r28 : b.tmps.getD 28 undef = (.agg #[.int .i64 b0, .int .i64 b1]) := rd (hT.at 4 (by kernel_rfl) (by decide))
      have q28 : b.tmps[28]?.getD undef = (.agg #[.int .i64 b0, .int .i64 b1]) := (Array.getD_eq_getD_getElem? ..).symm.trans r28
      have r29 : b.tmps.getD 29 undef = (.agg #[.int .i64 a0, .int .i64 a1]) := rd (hT.at 5 (by kernel_rfl) (by decide))
      have q29 : b.tmps[29]?.getD undef = (.agg #[.int .i64 a0, .int .i64 a1]) := (Array.getD_eq_getD_getElem? ..).symm.trans r29
      have r30 : b.tmps.getD 30 undef = (.agg #[.int .i64 c0, .int .i64 c1]) := rd (hT.at 6 (by kernel_rfl) (by decide))
      have q30 : b.tmps[30]?.getD undef = (.agg #[.int .i64 c0, .int .i64 c1]) := (Array.getD_eq_getD_getElem? ..).symm.trans r30
      refine op_go hoi (want_all rfl) fun K hK => ?_
      clear hT hlit hoi
      go_simp
      exact hK _ _ ⟨rfl, rfl⟩
    · have hlit : (regOps Try.f4 2)[8]? = some ({ dst := some 32, op := Op.load 23 (Operand.tmp 4), type := 23, pos := "law.go:31", after := #[], guard := none }) := by kernel_rfl
      obtain rfl := Option.some.inj (hlit.symm.trans hoi)
      obtain rfl : w' = w := hS
      have r4 : b.tmps.getD 4 undef = (.pointer (some ⟨kb, 0, none⟩)) := rd ((hT.old 4 (by kernel_rfl)).trans t4)
      refine op_go hoi (want_all rfl) fun K hK => ?_
      clear hT hlit hoi
      go_simp
      exact hK _ _ ⟨rfl, rfl⟩
    · have hlit : (regOps Try.f4 2)[9]? = some ({ dst := some 33, op := Op.load 23 (Operand.tmp 5), type := 23, pos := "law.go:31", after := #[], guard := none }) := by kernel_rfl
      obtain rfl := Option.some.inj (hlit.symm.trans hoi)
      obtain rfl : w' = w := hS
      have r5 : b.tmps.getD 5 undef = (.pointer (some ⟨kc, 0, none⟩)) := rd ((hT.old 5 (by kernel_rfl)).trans t5)
      refine op_go hoi (want_all rfl) fun K hK => ?_
      clear hT hlit hoi
      go_simp
      exact hK _ _ ⟨rfl, rfl⟩
    · have hlit : (regOps Try.f4 2)[10]? = some ({ dst := some 34, op := Op.load 23 (Operand.tmp 3), type := 23, pos := "law.go:31", after := #[], guard := none }) := by kernel_rfl
      obtain rfl := Option.some.inj (hlit.symm.trans hoi)
      obtain rfl : w' = w := hS
      have r3 : b.tmps.getD 3 undef = (.pointer (some ⟨ka, 0, none⟩)) := rd ((hT.old 3 (by kernel_rfl)).trans t3)
      refine op_go hoi (want_all rfl) fun K hK => ?_
      clear hT hlit hoi
      go_simp
      exact hK _ _ ⟨rfl, rfl⟩
    · have hlit : (regOps Try.f4 2)[11]? = some ({ dst := some 35, op := Op.build 38 #[(0, Operand.tmp 32), (1, Operand.tmp 33), (2, Operand.tmp 34)], type := 38, pos := "law.go:31", after := #[{ on := 8, ground := Ground.data }, { on := 9, ground := Ground.data }, { on := 10, ground := Ground.data }], guard := none }) := by kernel_rfl
      obtain rfl := Option.some.inj (hlit.symm.trans hoi)
      obtain rfl : w' = w := hS
      have r32 : b.tmps.getD 32 undef = (.agg #[.int .i64 b0, .int .i64 b1]) := rd (hT.at 8 (by kernel_rfl) (by decide))
      have q32 : b.tmps[32]?.getD undef = (.agg #[.int .i64 b0, .int .i64 b1]) := (Array.getD_eq_getD_getElem? ..).symm.trans r32
      have r33 : b.tmps.getD 33 undef = (.agg #[.int .i64 c0, .int .i64 c1]) := rd (hT.at 9 (by kernel_rfl) (by decide))
      have q33 : b.tmps[33]?.getD undef = (.agg #[.int .i64 c0, .int .i64 c1]) := (Array.getD_eq_getD_getElem? ..).symm.trans r33
      have r34 : b.tmps.getD 34 undef = (.agg #[.int .i64 a0, .int .i64 a1]) := rd (hT.at 10 (by kernel_rfl) (by decide))
      have q34 : b.tmps[34]?.getD undef = (.agg #[.int .i64 a0, .int .i64 a1]) := (Array.getD_eq_getD_getElem? ..).symm.trans r34
      refine op_go hoi (want_all rfl) fun K hK => ?_
      clear hT hlit hoi
      go_simp
      exact hK _ _ ⟨rfl, rfl⟩
    · have hlit : (regOps Try.f4 2)[12]? = some ({ dst := some 36, op := Op.load 23 (Operand.tmp 5), type := 23, pos := "law.go:31", after := #[], guard := none }) := by kernel_rfl
      obtain rfl := Option.some.inj (hlit.symm.trans hoi)
      obtain rfl : w' = w := hS
      have r5 : b.tmps.getD 5 undef = (.pointer (some ⟨kc, 0, none⟩)) := rd ((hT.old 5 (by kernel_rfl)).trans t5)
      refine op_go hoi (want_all rfl) fun K hK => ?_
      clear hT hlit hoi
      go_simp
      exact hK _ _ ⟨rfl, rfl⟩
    · have hlit : (regOps Try.f4 2)[13]? = some ({ dst := some 37, op := Op.load 23 (Operand.tmp 3), type := 23, pos := "law.go:31", after := #[], guard := none }) := by kernel_rfl
      obtain rfl := Option.some.inj (hlit.symm.trans hoi)
      obtain rfl : w' = w := hS
      have r3 : b.tmps.getD 3 undef = (.pointer (some ⟨ka, 0, none⟩)) := rd ((hT.old 3 (by kernel_rfl)).trans t3)
      refine op_go hoi (want_all rfl) fun K hK => ?_
      clear hT hlit hoi
      go_simp
      exact hK _ _ ⟨rfl, rfl⟩
    · have hlit : (regOps Try.f4 2)[14]? = some ({ dst := some 38, op := Op.load 23 (Operand.tmp 4), type := 23, pos := "law.go:31", after := #[], guard := none }) := by kernel_rfl
      obtain rfl := Option.some.inj (hlit.symm.trans hoi)
      obtain rfl : w' = w := hS
      have r4 : b.tmps.getD 4 undef = (.pointer (some ⟨kb, 0, none⟩)) := rd ((hT.old 4 (by kernel_rfl)).trans t4)
      refine op_go hoi (want_all rfl) fun K hK => ?_
      clear hT hlit hoi
      go_simp
      exact hK _ _ ⟨rfl, rfl⟩
    · have hlit : (regOps Try.f4 2)[15]? = some ({ dst := some 39, op := Op.build 38 #[(0, Operand.tmp 36), (1, Operand.tmp 37), (2, Operand.tmp 38)], type := 38, pos := "law.go:31", after := #[{ on := 12, ground := Ground.data }, { on := 13, ground := Ground.data }, { on := 14, ground := Ground.data }], guard := none }) := by kernel_rfl
      obtain rfl := Option.some.inj (hlit.symm.trans hoi)
      obtain rfl : w' = w := hS
      have r36 : b.tmps.getD 36 undef = (.agg #[.int .i64 c0, .int .i64 c1]) := rd (hT.at 12 (by kernel_rfl) (by decide))
      have q36 : b.tmps[36]?.getD undef = (.agg #[.int .i64 c0, .int .i64 c1]) := (Array.getD_eq_getD_getElem? ..).symm.trans r36
      have r37 : b.tmps.getD 37 undef = (.agg #[.int .i64 a0, .int .i64 a1]) := rd (hT.at 13 (by kernel_rfl) (by decide))
      have q37 : b.tmps[37]?.getD undef = (.agg #[.int .i64 a0, .int .i64 a1]) := (Array.getD_eq_getD_getElem? ..).symm.trans r37
      have r38 : b.tmps.getD 38 undef = (.agg #[.int .i64 b0, .int .i64 b1]) := rd (hT.at 14 (by kernel_rfl) (by decide))
      have q38 : b.tmps[38]?.getD undef = (.agg #[.int .i64 b0, .int .i64 b1]) := (Array.getD_eq_getD_getElem? ..).symm.trans r38
      refine op_go hoi (want_all rfl) fun K hK => ?_
      clear hT hlit hoi
      go_simp
      exact hK _ _ ⟨rfl, rfl⟩
    · have hlit : (regOps Try.f4 2)[16]? = some ({ dst := some 40, op := Op.load 23 (Operand.tmp 5), type := 23, pos := "law.go:31", after := #[], guard := none }) := by kernel_rfl
      obtain rfl := Option.some.inj (hlit.symm.trans hoi)
      obtain rfl : w' = w := hS
      have r5 : b.tmps.getD 5 undef = (.pointer (some ⟨kc, 0, none⟩)) := rd ((hT.old 5 (by kernel_rfl)).trans t5)
      refine op_go hoi (want_all rfl) fun K hK => ?_
      clear hT hlit hoi
      go_simp
      exact hK _ _ ⟨rfl, rfl⟩
    · have hlit : (regOps Try.f4 2)[17]? = some ({ dst := some 41, op := Op.load 23 (Operand.tmp 4), type := 23, pos := "law.go:31", after := #[], guard := none }) := by kernel_rfl
      obtain rfl := Option.some.inj (hlit.symm.trans hoi)
      obtain rfl : w' = w := hS
      have r4 : b.tmps.getD 4 undef = (.pointer (some ⟨kb, 0, none⟩)) := rd ((hT.old 4 (by kernel_rfl)).trans t4)
      refine op_go hoi (want_all rfl) fun K hK => ?_
      clear hT hlit hoi
      go_simp
      exact hK _ _ ⟨rfl, rfl⟩
    · have hlit : (regOps Try.f4 2)[18]? = some ({ dst := some 42, op := Op.load 23 (Operand.tmp 3), type := 23, pos := "law.go:31", after := #[], guard := none }) := by kernel_rfl
      obtain rfl := Option.some.inj (hlit.symm.trans hoi)
      obtain rfl : w' = w := hS
      have r3 : b.tmps.getD 3 undef = (.pointer (some ⟨ka, 0, none⟩)) := rd ((hT.old 3 (by kernel_rfl)).trans t3)
      refine op_go hoi (want_all rfl) fun K hK => ?_
      clear hT hlit hoi
      go_simp
      exact hK _ _ ⟨rfl, rfl⟩
    · have hlit : (regOps Try.f4 2)[19]? = some ({ dst := some 43, op := Op.build 38 #[(0, Operand.tmp 40), (1, Operand.tmp 41), (2, Operand.tmp 42)], type := 38, pos := "law.go:31", after := #[{ on := 16, ground := Ground.data }, { on := 17, ground := Ground.data }, { on := 18, ground := Ground.data }], guard := none }) := by kernel_rfl
      obtain rfl := Option.some.inj (hlit.symm.trans hoi)
      obtain rfl : w' = w := hS
      have r40 : b.tmps.getD 40 undef = (.agg #[.int .i64 c0, .int .i64 c1]) := rd (hT.at 16 (by kernel_rfl) (by decide))
      have q40 : b.tmps[40]?.getD undef = (.agg #[.int .i64 c0, .int .i64 c1]) := (Array.getD_eq_getD_getElem? ..).symm.trans r40
      have r41 : b.tmps.getD 41 undef = (.agg #[.int .i64 b0, .int .i64 b1]) := rd (hT.at 17 (by kernel_rfl) (by decide))
      have q41 : b.tmps[41]?.getD undef = (.agg #[.int .i64 b0, .int .i64 b1]) := (Array.getD_eq_getD_getElem? ..).symm.trans r41
      have r42 : b.tmps.getD 42 undef = (.agg #[.int .i64 a0, .int .i64 a1]) := rd (hT.at 18 (by kernel_rfl) (by decide))
      have q42 : b.tmps[42]?.getD undef = (.agg #[.int .i64 a0, .int .i64 a1]) := (Array.getD_eq_getD_getElem? ..).symm.trans r42
      refine op_go hoi (want_all rfl) fun K hK => ?_
      clear hT hlit hoi
      go_simp
      exact hK _ _ ⟨rfl, rfl⟩
    · have hlit : (regOps Try.f4 2)[20]? = some ({ dst := some 44, op := Op.build 39 #[(0, Operand.tmp 27), (1, Operand.tmp 31), (2, Operand.tmp 35), (3, Operand.tmp 39), (4, Operand.tmp 43)], type := 39, pos := "law.go:31", after := #[{ on := 3, ground := Ground.data }, { on := 7, ground := Ground.data }, { on := 11, ground := Ground.data }, { on := 15, ground := Ground.data }, { on := 19, ground := Ground.data }], guard := none }) := by kernel_rfl
      obtain rfl := Option.some.inj (hlit.symm.trans hoi)
      obtain rfl : w' = w := hS
      have r27 : b.tmps.getD 27 undef = (.agg #[.int .i64 a0, .int .i64 a1, .int .i64 c0, .int .i64 c1, .int .i64 b0, .int .i64 b1]) := rd (hT.at 3 (by kernel_rfl) (by decide))
      have q27 : b.tmps[27]?.getD undef = (.agg #[.int .i64 a0, .int .i64 a1, .int .i64 c0, .int .i64 c1, .int .i64 b0, .int .i64 b1]) := (Array.getD_eq_getD_getElem? ..).symm.trans r27
      have r31 : b.tmps.getD 31 undef = (.agg #[.int .i64 b0, .int .i64 b1, .int .i64 a0, .int .i64 a1, .int .i64 c0, .int .i64 c1]) := rd (hT.at 7 (by kernel_rfl) (by decide))
      have q31 : b.tmps[31]?.getD undef = (.agg #[.int .i64 b0, .int .i64 b1, .int .i64 a0, .int .i64 a1, .int .i64 c0, .int .i64 c1]) := (Array.getD_eq_getD_getElem? ..).symm.trans r31
      have r35 : b.tmps.getD 35 undef = (.agg #[.int .i64 b0, .int .i64 b1, .int .i64 c0, .int .i64 c1, .int .i64 a0, .int .i64 a1]) := rd (hT.at 11 (by kernel_rfl) (by decide))
      have q35 : b.tmps[35]?.getD undef = (.agg #[.int .i64 b0, .int .i64 b1, .int .i64 c0, .int .i64 c1, .int .i64 a0, .int .i64 a1]) := (Array.getD_eq_getD_getElem? ..).symm.trans r35
      have r39 : b.tmps.getD 39 undef = (.agg #[.int .i64 c0, .int .i64 c1, .int .i64 a0, .int .i64 a1, .int .i64 b0, .int .i64 b1]) := rd (hT.at 15 (by kernel_rfl) (by decide))
      have q39 : b.tmps[39]?.getD undef = (.agg #[.int .i64 c0, .int .i64 c1, .int .i64 a0, .int .i64 a1, .int .i64 b0, .int .i64 b1]) := (Array.getD_eq_getD_getElem? ..).symm.trans r39
      have r43 : b.tmps.getD 43 undef = (.agg #[.int .i64 c0, .int .i64 c1, .int .i64 b0, .int .i64 b1, .int .i64 a0, .int .i64 a1]) := rd (hT.at 19 (by kernel_rfl) (by decide))
      have q43 : b.tmps[43]?.getD undef = (.agg #[.int .i64 c0, .int .i64 c1, .int .i64 b0, .int .i64 b1, .int .i64 a0, .int .i64 a1]) := (Array.getD_eq_getD_getElem? ..).symm.trans r43
      refine op_go hoi (want_all rfl) fun K hK => ?_
      clear hT hlit hoi
      go_simp
      exact hK _ _ ⟨rfl, rfl⟩
    · have hlit : (regOps Try.f4 2)[21]? = some ({ dst := some 9, op := Op.alloc 39, type := 0, pos := "law.go:31", after := #[], guard := none }) := by kernel_rfl
      obtain rfl := Option.some.inj (hlit.symm.trans hoi)
      obtain rfl : w' = w := hS
      refine op_go hoi (want_all rfl) fun K hK => ?_
      clear hT hlit hoi
      go_simp
      exact hK _ _ ⟨rfl, rfl⟩
    · have hlit : (regOps Try.f4 2)[22]? = some ({ dst := none, op := Op.store 39 (Operand.tmp 9) (Operand.tmp 44), type := 0, pos := "law.go:31", after := #[{ on := 21, ground := Ground.data }, { on := 20, ground := Ground.data }, { on := 0, ground := Ground.phase }, { on := 1, ground := Ground.phase }, { on := 2, ground := Ground.phase }, { on := 3, ground := Ground.phase }, { on := 4, ground := Ground.phase }, { on := 5, ground := Ground.phase }, { on := 6, ground := Ground.phase }, { on := 7, ground := Ground.phase }, { on := 8, ground := Ground.phase }, { on := 9, ground := Ground.phase }, { on := 10, ground := Ground.phase }, { on := 11, ground := Ground.phase }, { on := 12, ground := Ground.phase }, { on := 13, ground := Ground.phase }, { on := 14, ground := Ground.phase }, { on := 15, ground := Ground.phase }, { on := 16, ground := Ground.phase }, { on := 17, ground := Ground.phase }, { on := 18, ground := Ground.phase }, { on := 19, ground := Ground.phase }, { on := 20, ground := Ground.phase }, { on := 21, ground := Ground.phase }], guard := none }) := by kernel_rfl
      obtain rfl := Option.some.inj (hlit.symm.trans hoi)
      obtain rfl : w' = (w.alloc (.cells (Array.replicate 30 (.int .i64 0)) 39)) := hS
      have r9 : b.tmps.getD 9 undef = (.pointer (some ⟨w.heap.size, 0, none⟩)) := rd (hT.at 21 (by kernel_rfl) (by decide))
      have r44 : b.tmps.getD 44 undef = (.agg #[.int .i64 a0, .int .i64 a1, .int .i64 c0, .int .i64 c1, .int .i64 b0, .int .i64 b1, .int .i64 b0, .int .i64 b1, .int .i64 a0, .int .i64 a1, .int .i64 c0, .int .i64 c1, .int .i64 b0, .int .i64 b1, .int .i64 c0, .int .i64 c1, .int .i64 a0, .int .i64 a1, .int .i64 c0, .int .i64 c1, .int .i64 a0, .int .i64 a1, .int .i64 b0, .int .i64 b1, .int .i64 c0, .int .i64 c1, .int .i64 b0, .int .i64 b1, .int .i64 a0, .int .i64 a1]) := rd (hT.at 20 (by kernel_rfl) (by decide))
      refine op_go hoi (want_all rfl) fun K hK => ?_
      clear hT hlit hoi
      refine wp_store_row 39 _ _ rfl w.heap.size #[.int .i64 a0, .int .i64 a1, .int .i64 c0, .int .i64 c1, .int .i64 b0, .int .i64 b1, .int .i64 b0, .int .i64 b1, .int .i64 a0, .int .i64 a1, .int .i64 c0, .int .i64 c1, .int .i64 b0, .int .i64 b1, .int .i64 c0, .int .i64 c1, .int .i64 a0, .int .i64 a1, .int .i64 c0, .int .i64 c1, .int .i64 a0, .int .i64 a1, .int .i64 b0, .int .i64 b1, .int .i64 c0, .int .i64 c1, .int .i64 b0, .int .i64 b1, .int .i64 a0, .int .i64 a1] r9 r44 39 (Array.replicate 30 (.int .i64 0)) (alloc_last _ _) (by kernel_rfl) (by simp) (by kernel_rfl) ?_
      exact hK _ _ ⟨rfl, rfl⟩
  · intro b w' hT hS
    rw [hT.all ht]
    have hn : (regOps Try.f4 2).size = 23 := by kernel_rfl
    rw [hn] at hS ⊢
    obtain rfl : w' = ((w.alloc (.cells (Array.replicate 30 (.int .i64 0)) 39)).setRow w.heap.size #[.int .i64 a0, .int .i64 a1, .int .i64 c0, .int .i64 c1, .int .i64 b0, .int .i64 b1, .int .i64 b0, .int .i64 b1, .int .i64 a0, .int .i64 a1, .int .i64 c0, .int .i64 c1, .int .i64 b0, .int .i64 b1, .int .i64 c0, .int .i64 c1, .int .i64 a0, .int .i64 a1, .int .i64 c0, .int .i64 c1, .int .i64 a0, .int .i64 a1, .int .i64 b0, .int .i64 b1, .int .i64 c0, .int .i64 c1, .int .i64 b0, .int .i64 b1, .int .i64 a0, .int .i64 a1]) := hS
    exact he w.heap.size _ rfl (alloc_setRow _ _ _ _)

end Go.Proofs.Ytandgbpbabmdfaa
