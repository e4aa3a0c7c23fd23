import Derived.Test.YtkamnnkdadfebaaDoorB8
import Derived.Test.YtkamnnkdadfebaaDoorC4
import Derived.Test.YtkamnnkdadfebaaDoorC1
import Derived.Test.YtkamnnkdadfebaaDoorC3
import Derived.Test.YtkamnnkdadfebaaDoorB3
import Derived.Deep.DeepCutAuto
namespace Go.Proofs.YtkamnnkdadfebaaDoor
open Go.RowKit
set_option linter.unusedVariables false
attribute [local go_sem high] eq24 eq37


/-- One for the empty text. -/
def empV : Value → Nat | .string s => if s.size = 0 then 1 else 0 | _ => 0
theorem empV_list (l : List UInt8) : empV (.string ⟨l.toArray⟩) = if l = [] then 1 else 0 := by
  show (if (⟨l.toArray⟩ : ByteArray).size = 0 then 1 else 0) = _
  have e : (⟨l.toArray⟩ : ByteArray).size = l.length := rfl
  rw [e]
  cases l <;> simp

theorem meas (M : Nat) (D : List UInt8) : (intOf (.int .u64 (hiW (M : Int))) * 18446744073709551616 + intOf (.int .u64 (loW (M : Int)))).toNat + empV (.string ⟨D.toArray⟩) = M + if D = [] then 1 else 0 := by
  rw [empV_list]
  simp only [intOf]
  rw [show hiW (M : Int) * 18446744073709551616 + loW (M : Int) = (M : Int) by unfold hiW loW; omega]
  rfl

theorem ref_round (N M : Nat) (D : List UInt8) (c : UInt8) (hc : c = UInt8.ofNat (48 + M % 10)) (hN : N ≤ 170141183460469231731687303715884105728) (hM : 0 < M ∨ D = []) (h1 : M ≤ N) (h2 : D.length ≤ 39)
    (h3 : (D = [] ∧ M = N) ∨ (D ≠ [] ∧ M = 0 ∧ D = Lib.decDigits N) ∨ (D ≠ [] ∧ 0 < M ∧ Lib.decDigits M ++ D = Lib.decDigits N)) :
    (c :: D).length ≤ 39 ∧ ((c :: D = [] ∧ M / 10 = N) ∨ (c :: D ≠ [] ∧ M / 10 = 0 ∧ c :: D = Lib.decDigits N) ∨ (c :: D ≠ [] ∧ 0 < M / 10 ∧ Lib.decDigits (M / 10) ++ c :: D = Lib.decDigits N)) := by
  have hl := dec_len N hN
  have hcD : c :: D ≠ [] := List.cons_ne_nil _ _
  have hsm : M < 10 → Lib.decDigits M = [c] := fun h => by rw [dec_small h, hc, Nat.mod_eq_of_lt h]
  have hbg : ¬ M < 10 → Lib.decDigits M = Lib.decDigits (M / 10) ++ [c] := fun h => by rw [dec_big h, hc]
  rcases h3 with ⟨hd, hm⟩ | ⟨hd, hm, _⟩ | ⟨hd, hm, e⟩
  · subst hd; subst hm
    refine ⟨by simp, .inr ?_⟩
    by_cases h : M < 10
    · exact .inl ⟨hcD, by omega, (hsm h).symm⟩
    · exact .inr ⟨hcD, by omega, (hbg h).symm⟩
  · exact absurd (hM.resolve_right hd) (by omega)
  · by_cases h : M < 10
    · rw [hsm h] at e
      refine ⟨?_, .inr (.inl ⟨hcD, by omega, e⟩)⟩
      rw [show c :: D = [c] ++ D from rfl, e]; exact hl
    · rw [hbg h, List.append_assoc] at e
      refine ⟨?_, .inr (.inr ⟨hcD, by omega, e⟩)⟩
      have := congrArg List.length e
      simp only [List.length_append, List.length_cons, List.length_nil] at this ⊢
      omega

set_option maxHeartbeats 4000000 in
set_option maxRecDepth 100000 in
theorem rtext25_pos (N : Nat) (hN : N ≤ 170141183460469231731687303715884105728) (u0 u1 : Int) (w : World) (t0 : decide (u0 < 0) = false) (e0 : IntKind.u64.wrap u0 = hiW N) (e1 : u1 = loW N) :
    Calls Tryd.prog 25 #[.agg #[.int .i64 u0, .int .u64 u1]] w fun e w' => e = .returned (.string ⟨(Lib.decDigits N).toArray⟩) ∧ Below w.heap.size w w' := by
  have HB := Below.refl w.heap.size w
  go_enter Tryd.func25, Tryd.ntmps25
  go_wp2_with fail
  go_region_held3 (fun w' => w'.cell? ⟨w.heap.size, 0, none⟩ = some (.int .i64 u0) ∧ w'.cell? ⟨w.heap.size, 1, none⟩ = some (.int .u64 u1)) ((repeat' apply And.intro) <;> go_simp) (first | fail)
  all_goals
    go_wp2_with fail
    go_loopw [4, 5, 6] (fun h l d wr => ∃ (M : Nat) (D : List UInt8), h = .int .u64 (hiW M) ∧ l = .int .u64 (loW M) ∧ d = .string ⟨D.toArray⟩ ∧ M ≤ N ∧ D.length ≤ 39 ∧ ((D = [] ∧ M = N) ∨ (D ≠ [] ∧ M = 0 ∧ D = Lib.decDigits N) ∨ (D ≠ [] ∧ 0 < M ∧ Lib.decDigits M ++ D = Lib.decDigits N)) ∧ Below w.heap.size w wr) (fun h l d _ => (intOf h * 18446744073709551616 + intOf l).toNat + empV d)
    case atStart => exact ⟨N, [], rfl, rfl, rfl, Nat.le_refl _, by simp, .inl ⟨rfl, rfl⟩, by repeat (first | (with_reducible exact HB) | (with_reducible exact Below.refl _ _) | (with_reducible apply bd) | (with_reducible apply ba) | (with_reducible refine bs ?_ (by first | (simp; done) | (simp; omega)) _))⟩
    case round =>
      clear e0 e1 t0 HB
      obtain ⟨M, D, rfl, rfl, rfl, h1, h2, h3, HB⟩ := hrel
      by_cases hdone : D ≠ [] ∧ M = 0
      · obtain ⟨g1, rfl⟩ := hdone
        have hD : D = Lib.decDigits N := by
          rcases h3 with ⟨h, _⟩ | ⟨_, _, h⟩ | ⟨_, h, _⟩
          · exact absurd h g1
          · exact h
          · omega
        have k0 : decide (0 < hiW ((0 : Nat) : Int)) = false := by decide
        have k1 : decide (0 < loW ((0 : Nat) : Int)) = false := by decide
        have k2 : D.isEmpty = false := by cases D with | nil => exact absurd rfl g1 | cons => rfl
        subst hD
        clear h1 h3 g1
        generalize hiW ((0 : Nat) : Int) = h at *
        generalize loW ((0 : Nat) : Int) = l at *
        go_wp2_with fail
        all_goals first
          | (exfalso; omega)
          | (go_ret
             refine ⟨rs ?_, by repeat (first | (with_reducible exact HB) | (with_reducible exact Below.refl _ _) | (with_reducible apply bd) | (with_reducible apply ba) | (with_reducible refine bs ?_ (by first | (simp; done) | (simp; omega)) _))⟩
             (try simp only [catB]); simp)
      · have hcont : 0 < M ∨ D = [] := by
          by_cases g : D = []
          · exact .inr g
          · exact .inl (by have : ¬ M = 0 := fun e => hdone ⟨g, e⟩
                           omega)
        obtain ⟨q0, q1, q2, q3, p0, p1, p2, p3, r1, r2, r3, v1, v2, v3, a1, a2, a3, a4, b1, b2, b3, b4, b5, b6, b7, b8, b9, b10, b11, c1, c2, ⟨i1, i2⟩, ⟨i3, i4⟩, ⟨i5, i6⟩, ⟨i7, i8⟩, ⟨j1, j2⟩, ⟨j3, j4⟩, ⟨j5, j6⟩, ⟨j7, j8⟩, ⟨l1, l2⟩, ⟨l3, l4⟩, ⟨l5, l6⟩, ⟨n1, n2⟩, ⟨n3, n4⟩, ⟨n5, n6⟩⟩ := tenth (M : Int) (by omega) (by omega)
        have d1 : bits .and .u64 (hiW (M : Int)) 4294967295 = q1 := (maskI _ (by unfold hiW; omega) (by unfold hiW; omega)).trans a2
        have d2 : bits .and .u64 (loW (M : Int)) 4294967295 = q3 := (maskI _ (loW_bd _).1 (loW_bd _).2).trans a4
        have O0 : bits .or .u64 0 q0 = q0 := by have := orI (a := 0) (b := q0) (by omega) (by omega) i1 i2; simpa using this
        have O1 : bits .or .u64 (r1 * 4294967296) q1 = v1 := (orI (by omega) (by omega) i3 i4).trans b3
        have O2 : bits .or .u64 (r2 * 4294967296) q2 = v2 := (orI (by omega) (by omega) i5 i6).trans b6
        have O3 : bits .or .u64 (r3 * 4294967296) q3 = v3 := (orI (by omega) (by omega) i7 i8).trans b9
        have O4 : bits .or .u64 (p0 * 4294967296) p1 = hiW ((M : Int) / 10) := (orI j1 j2 j3 j4).trans c1
        have O5 : bits .or .u64 (p2 * 4294967296) p3 = loW ((M : Int) / 10) := (orI j5 j6 j7 j8).trans c2
        obtain ⟨r4, hr4⟩ : ∃ r4 : Int, (M : Int) % 10 = r4 := ⟨_, rfl⟩
        have hr4b : 0 ≤ r4 ∧ r4 ≤ 9 := by omega
        rw [hr4] at b11
        obtain ⟨h', hh'⟩ : ∃ h' : Int, hiW ((M : Int) / 10) = h' := ⟨_, rfl⟩
        obtain ⟨l', hl'⟩ : ∃ l' : Int, loW ((M : Int) / 10) = l' := ⟨_, rfl⟩
        rw [hh'] at O4
        rw [hl'] at O5
        have HH := Lib.hid (And.intro hh' (And.intro hl' hr4))
        clear hh' hl' hr4 a2 a4 b3 b6 b9 c1 c2
        have kM := Lib.hid hcont
        have hE : (decide (0 < hiW (M : Int)) || decide (0 < loW (M : Int)) || D.isEmpty) = true := by
          rcases hcont with h | h
          · by_cases k : 0 < hiW (M : Int)
            · simp [k]
            · have : 0 < loW (M : Int) := by unfold hiW at k; unfold loW; omega
              simp [this]
          · simp [h]
        have HE := Lib.hid hE
        have H3 := Lib.hid h3
        clear hE hcont h3 hdone
        go_upto_region 7 with fail
        go_cut [30] (fun s30 wx => s30 = .bool true ∧ wx = wr)
        case first =>
          have hE := HE.out
          cases k0 : decide (0 < hiW (M : Int)) <;> cases k1 : decide (0 < loW (M : Int)) <;> cases k2 : D.isEmpty <;> simp only [k0, k1, k2, Bool.or_false, Bool.or_true] at hE
          all_goals first
            | (exfalso; exact Bool.false_ne_true hE)
            | (go_wp2_with fail; go_meet; case rel => exact ⟨rfl, rfl⟩)
        case rest =>
          obtain ⟨rfl, rfl⟩ := hcut
          go_wp2_with fail
          refine wp_loop_rounds 5 ?_
          rw [rounds_succ]
          go_wp2_with fail
          rw [rounds_succ]
          go_wp2_with fail
          rw [rounds_succ]
          go_wp2_with fail
          rw [rounds_succ]
          go_wp2_with fail
          rw [rounds_succ]
          go_wp2_with fail
          go_region_held3 (fun w' => w'.cell? ⟨wc.heap.size, 0, none⟩ = some (.int .u64 p0) ∧ w'.cell? ⟨wc.heap.size, 1, none⟩ = some (.int .u64 p1) ∧ w'.cell? ⟨wc.heap.size, 2, none⟩ = some (.int .u64 p2) ∧ w'.cell? ⟨wc.heap.size, 3, none⟩ = some (.int .u64 p3)) ((repeat' apply And.intro) <;> go_simp) (first | fail)
          all_goals
            obtain ⟨c, hc⟩ : ∃ c : UInt8, c = UInt8.ofNat (48 + M % 10) := ⟨_, rfl⟩
            have hct : (48 + r4 : Int) = (c.toNat : Int) := by
              have h3 := HH.out.2.2
              rw [hc, digit_toNat (M % 10) (by omega)]; omega
            have Hc := Lib.hid hc
            clear hc
            have hcv := run_convert_bytes_back (P := Tryd.prog) (((wc.alloc (.cells #[.int .u64 p0, .int .u64 p1, .int .u64 p2, .int .u64 p3] 70)).alloc (.cells #[.int .u8 (48 + r4)] 5)).drew) 55 9 5 ⟨wc.heap.size + 1, 0, none⟩ 1 [c] Tryd.underlying55 Tryd.underlying5 Tryd.underlying9 (fun j hj => by
              have hj' : j = 0 := by simpa using hj
              subst hj'
              rw [show [c][0] = c from rfl, ← hct]
              show World.cell? _ ⟨wc.heap.size + 1, 0, none⟩ = _
              go_simp)
            rw [List.length_singleton] at hcv
            clear hct
            go_wp2_with fail
            all_goals first
              | (exfalso; simp only [List.length_cons] at *; omega)
              | (obtain ⟨z1, z2, z3⟩ := HH.out
                 have h3 := H3.out
                 have hM := kM.out
                 have e1 : hiW ((M / 10 : Nat) : Int) = h' := by rw [← z1]; congr 1
                 have e2 : loW ((M / 10 : Nat) : Int) = l' := by rw [← z2]; congr 1
                 have o4 : bits .or .u64 (IntKind.u64.wrap (p0 * 4294967296)) p1 = h' := by rw [show IntKind.u64.wrap (p0 * 4294967296) = p0 * 4294967296 by rw [IntKind.wrap_u64]; omega]; exact O4
                 have o5 : bits .or .u64 (IntKind.u64.wrap (p2 * 4294967296)) p3 = l' := by rw [show IntKind.u64.wrap (p2 * 4294967296) = p2 * 4294967296 by rw [IntKind.wrap_u64]; omega]; exact O5
                 have E1 : Value.int .u64 (bits .or .u64 (IntKind.u64.wrap (p0 * 4294967296)) p1) = .int .u64 (hiW ((M / 10 : Nat) : Int)) := by rw [o4, e1]
                 have E2 : Value.int .u64 (bits .or .u64 (IntKind.u64.wrap (p2 * 4294967296)) p3) = .int .u64 (loW ((M / 10 : Nat) : Int)) := by rw [o5, e2]
                 have E3 : Value.string ((⟨#[c]⟩ : ByteArray) ++ ⟨D.toArray⟩) = .string ⟨(c :: D).toArray⟩ := by rw [show (⟨#[c]⟩ : ByteArray) = ⟨[c].toArray⟩ from rfl, catB]; rfl
                 clear O1 O2 O3 O4 O5 O0 o4 o5 hcv d1 d2 a1 a3 b1 b2 b4 b5 b7 b8 b10 b11
                 rw [E1, E2, E3, meas, meas, if_neg (List.cons_ne_nil _ _)]
                 obtain ⟨f1, f2⟩ := ref_round N M D c Hc.out hN hM h1 h2 h3
                 refine ⟨⟨M / 10, c :: D, rfl, rfl, rfl, by omega, f1, f2, by repeat (first | (with_reducible exact HB) | (with_reducible exact Below.refl _ _) | (with_reducible apply bd) | (with_reducible apply ba) | (with_reducible refine bs ?_ (by first | (simp; done) | (simp; omega)) _))⟩, ?_⟩
                 by_cases hd : D = []
                 · rw [if_pos hd]; omega
                 · rw [if_neg hd]; have := hM.resolve_right hd; omega)

set_option maxHeartbeats 4000000 in
set_option maxRecDepth 100000 in
theorem rtext25_neg (N : Nat) (hN : N ≤ 170141183460469231731687303715884105728) (u0 u1 y1 : Int) (w : World) (x0 : Int) (t0 : decide (u0 < 0) = true) (m1 : ∀ w : World, Calls Tryd.prog 40 #[.agg #[.int .i64 u0, .int .u64 u1]] w fun e w' => e = .returned (.agg #[.int .i64 x0, .int .u64 y1]) ∧ Below w.heap.size w w') (e0 : IntKind.u64.wrap x0 = hiW N) (e1 : y1 = loW N) :
    Calls Tryd.prog 25 #[.agg #[.int .i64 u0, .int .u64 u1]] w fun e w' => e = .returned (.string ⟨(45 :: Lib.decDigits N).toArray⟩) ∧ Below w.heap.size w w' := by
  have HB := Below.refl w.heap.size w
  go_enter Tryd.func25, Tryd.ntmps25
  go_wp2_with fail
  refine (m1 _).mono ?_; rintro e w1 ⟨rfl, hb⟩; (with_reducible (repeat replace hb := undr hb))
  have fr0 := cf hb (b := w.heap.size) (o := 0) (by simp) (by go_simp)
  have fr1 := cf hb (b := w.heap.size) (o := 1) (by simp) (by go_simp)
  have cr0 := ck hb (a := ⟨w.heap.size, 0, none⟩) (v := .int .i64 u0) (by go_simp)
  have cr1 := ck hb (a := ⟨w.heap.size, 1, none⟩) (v := .int .u64 u1) (by go_simp)
  replace HB : Below w.heap.size w w1 := bt (by repeat (first | (with_reducible exact HB) | (with_reducible exact Below.refl _ _) | (with_reducible apply bd) | (with_reducible apply ba) | (with_reducible refine bs ?_ (by first | (simp; done) | (simp; omega)) _))) hb
  clear hb
  go_wp2_with fail
  go_region_held3 (fun w' => w'.cell? ⟨w.heap.size, 0, none⟩ = some (.int .i64 x0) ∧ w'.cell? ⟨w.heap.size, 1, none⟩ = some (.int .u64 y1)) ((repeat' apply And.intro) <;> go_simp) (first | fail)
  all_goals
    go_wp2_with fail
    go_loopw [4, 5, 6] (fun h l d wr => ∃ (M : Nat) (D : List UInt8), h = .int .u64 (hiW M) ∧ l = .int .u64 (loW M) ∧ d = .string ⟨D.toArray⟩ ∧ M ≤ N ∧ D.length ≤ 39 ∧ ((D = [] ∧ M = N) ∨ (D ≠ [] ∧ M = 0 ∧ D = Lib.decDigits N) ∨ (D ≠ [] ∧ 0 < M ∧ Lib.decDigits M ++ D = Lib.decDigits N)) ∧ Below w.heap.size w wr) (fun h l d _ => (intOf h * 18446744073709551616 + intOf l).toNat + empV d)
    case atStart => exact ⟨N, [], rfl, rfl, rfl, Nat.le_refl _, by simp, .inl ⟨rfl, rfl⟩, by repeat (first | (with_reducible exact HB) | (with_reducible exact Below.refl _ _) | (with_reducible apply bd) | (with_reducible apply ba) | (with_reducible refine bs ?_ (by first | (simp; done) | (simp; omega)) _))⟩
    case round =>
      clear e0 e1 t0 HB m1 cr0 cr1 fr0 fr1
      obtain ⟨M, D, rfl, rfl, rfl, h1, h2, h3, HB⟩ := hrel
      by_cases hdone : D ≠ [] ∧ M = 0
      · obtain ⟨g1, rfl⟩ := hdone
        have hD : D = Lib.decDigits N := by
          rcases h3 with ⟨h, _⟩ | ⟨_, _, h⟩ | ⟨_, h, _⟩
          · exact absurd h g1
          · exact h
          · omega
        have k0 : decide (0 < hiW ((0 : Nat) : Int)) = false := by decide
        have k1 : decide (0 < loW ((0 : Nat) : Int)) = false := by decide
        have k2 : D.isEmpty = false := by cases D with | nil => exact absurd rfl g1 | cons => rfl
        subst hD
        clear h1 h3 g1
        generalize hiW ((0 : Nat) : Int) = h at *
        generalize loW ((0 : Nat) : Int) = l at *
        go_wp2_with fail
        all_goals first
          | (exfalso; omega)
          | (go_ret
             refine ⟨rs ?_, by repeat (first | (with_reducible exact HB) | (with_reducible exact Below.refl _ _) | (with_reducible apply bd) | (with_reducible apply ba) | (with_reducible refine bs ?_ (by first | (simp; done) | (simp; omega)) _))⟩
             (try simp only [show (⟨#[45]⟩ : ByteArray) = ⟨[45].toArray⟩ from rfl, catB]); simp)
      · have hcont : 0 < M ∨ D = [] := by
          by_cases g : D = []
          · exact .inr g
          · exact .inl (by have : ¬ M = 0 := fun e => hdone ⟨g, e⟩
                           omega)
        obtain ⟨q0, q1, q2, q3, p0, p1, p2, p3, r1, r2, r3, v1, v2, v3, a1, a2, a3, a4, b1, b2, b3, b4, b5, b6, b7, b8, b9, b10, b11, c1, c2, ⟨i1, i2⟩, ⟨i3, i4⟩, ⟨i5, i6⟩, ⟨i7, i8⟩, ⟨j1, j2⟩, ⟨j3, j4⟩, ⟨j5, j6⟩, ⟨j7, j8⟩, ⟨l1, l2⟩, ⟨l3, l4⟩, ⟨l5, l6⟩, ⟨n1, n2⟩, ⟨n3, n4⟩, ⟨n5, n6⟩⟩ := tenth (M : Int) (by omega) (by omega)
        have d1 : bits .and .u64 (hiW (M : Int)) 4294967295 = q1 := (maskI _ (by unfold hiW; omega) (by unfold hiW; omega)).trans a2
        have d2 : bits .and .u64 (loW (M : Int)) 4294967295 = q3 := (maskI _ (loW_bd _).1 (loW_bd _).2).trans a4
        have O0 : bits .or .u64 0 q0 = q0 := by have := orI (a := 0) (b := q0) (by omega) (by omega) i1 i2; simpa using this
        have O1 : bits .or .u64 (r1 * 4294967296) q1 = v1 := (orI (by omega) (by omega) i3 i4).trans b3
        have O2 : bits .or .u64 (r2 * 4294967296) q2 = v2 := (orI (by omega) (by omega) i5 i6).trans b6
        have O3 : bits .or .u64 (r3 * 4294967296) q3 = v3 := (orI (by omega) (by omega) i7 i8).trans b9
        have O4 : bits .or .u64 (p0 * 4294967296) p1 = hiW ((M : Int) / 10) := (orI j1 j2 j3 j4).trans c1
        have O5 : bits .or .u64 (p2 * 4294967296) p3 = loW ((M : Int) / 10) := (orI j5 j6 j7 j8).trans c2
        obtain ⟨r4, hr4⟩ : ∃ r4 : Int, (M : Int) % 10 = r4 := ⟨_, rfl⟩
        have hr4b : 0 ≤ r4 ∧ r4 ≤ 9 := by omega
        rw [hr4] at b11
        obtain ⟨h', hh'⟩ : ∃ h' : Int, hiW ((M : Int) / 10) = h' := ⟨_, rfl⟩
        obtain ⟨l', hl'⟩ : ∃ l' : Int, loW ((M : Int) / 10) = l' := ⟨_, rfl⟩
        rw [hh'] at O4
        rw [hl'] at O5
        have HH := Lib.hid (And.intro hh' (And.intro hl' hr4))
        clear hh' hl' hr4 a2 a4 b3 b6 b9 c1 c2
        have kM := Lib.hid hcont
        have hE : (decide (0 < hiW (M : Int)) || decide (0 < loW (M : Int)) || D.isEmpty) = true := by
          rcases hcont with h | h
          · by_cases k : 0 < hiW (M : Int)
            · simp [k]
            · have : 0 < loW (M : Int) := by unfold hiW at k; unfold loW; omega
              simp [this]
          · simp [h]
        have HE := Lib.hid hE
        have H3 := Lib.hid h3
        clear hE hcont h3 hdone
        go_upto_region 7 with fail
        go_cut [30] (fun s30 wx => s30 = .bool true ∧ wx = wr)
        case first =>
          have hE := HE.out
          cases k0 : decide (0 < hiW (M : Int)) <;> cases k1 : decide (0 < loW (M : Int)) <;> cases k2 : D.isEmpty <;> simp only [k0, k1, k2, Bool.or_false, Bool.or_true] at hE
          all_goals first
            | (exfalso; exact Bool.false_ne_true hE)
            | (go_wp2_with fail; go_meet; case rel => exact ⟨rfl, rfl⟩)
        case rest =>
          obtain ⟨rfl, rfl⟩ := hcut
          go_wp2_with fail
          refine wp_loop_rounds 5 ?_
          rw [rounds_succ]
          go_wp2_with fail
          rw [rounds_succ]
          go_wp2_with fail
          rw [rounds_succ]
          go_wp2_with fail
          rw [rounds_succ]
          go_wp2_with fail
          rw [rounds_succ]
          go_wp2_with fail
          go_region_held3 (fun w' => w'.cell? ⟨wc.heap.size, 0, none⟩ = some (.int .u64 p0) ∧ w'.cell? ⟨wc.heap.size, 1, none⟩ = some (.int .u64 p1) ∧ w'.cell? ⟨wc.heap.size, 2, none⟩ = some (.int .u64 p2) ∧ w'.cell? ⟨wc.heap.size, 3, none⟩ = some (.int .u64 p3)) ((repeat' apply And.intro) <;> go_simp) (first | fail)
          all_goals
            obtain ⟨c, hc⟩ : ∃ c : UInt8, c = UInt8.ofNat (48 + M % 10) := ⟨_, rfl⟩
            have hct : (48 + r4 : Int) = (c.toNat : Int) := by
              have h3 := HH.out.2.2
              rw [hc, digit_toNat (M % 10) (by omega)]; omega
            have Hc := Lib.hid hc
            clear hc
            have hcv := run_convert_bytes_back (P := Tryd.prog) (((wc.alloc (.cells #[.int .u64 p0, .int .u64 p1, .int .u64 p2, .int .u64 p3] 70)).alloc (.cells #[.int .u8 (48 + r4)] 5)).drew) 55 9 5 ⟨wc.heap.size + 1, 0, none⟩ 1 [c] Tryd.underlying55 Tryd.underlying5 Tryd.underlying9 (fun j hj => by
              have hj' : j = 0 := by simpa using hj
              subst hj'
              rw [show [c][0] = c from rfl, ← hct]
              show World.cell? _ ⟨wc.heap.size + 1, 0, none⟩ = _
              go_simp)
            rw [List.length_singleton] at hcv
            clear hct
            go_wp2_with fail
            all_goals first
              | (exfalso; simp only [List.length_cons] at *; omega)
              | (obtain ⟨z1, z2, z3⟩ := HH.out
                 have h3 := H3.out
                 have hM := kM.out
                 have e1 : hiW ((M / 10 : Nat) : Int) = h' := by rw [← z1]; congr 1
                 have e2 : loW ((M / 10 : Nat) : Int) = l' := by rw [← z2]; congr 1
                 have o4 : bits .or .u64 (IntKind.u64.wrap (p0 * 4294967296)) p1 = h' := by rw [show IntKind.u64.wrap (p0 * 4294967296) = p0 * 4294967296 by rw [IntKind.wrap_u64]; omega]; exact O4
                 have o5 : bits .or .u64 (IntKind.u64.wrap (p2 * 4294967296)) p3 = l' := by rw [show IntKind.u64.wrap (p2 * 4294967296) = p2 * 4294967296 by rw [IntKind.wrap_u64]; omega]; exact O5
                 have E1 : Value.int .u64 (bits .or .u64 (IntKind.u64.wrap (p0 * 4294967296)) p1) = .int .u64 (hiW ((M / 10 : Nat) : Int)) := by rw [o4, e1]
                 have E2 : Value.int .u64 (bits .or .u64 (IntKind.u64.wrap (p2 * 4294967296)) p3) = .int .u64 (loW ((M / 10 : Nat) : Int)) := by rw [o5, e2]
                 have E3 : Value.string ((⟨#[c]⟩ : ByteArray) ++ ⟨D.toArray⟩) = .string ⟨(c :: D).toArray⟩ := by rw [show (⟨#[c]⟩ : ByteArray) = ⟨[c].toArray⟩ from rfl, catB]; rfl
                 clear O1 O2 O3 O4 O5 O0 o4 o5 hcv d1 d2 a1 a3 b1 b2 b4 b5 b7 b8 b10 b11
                 rw [E1, E2, E3, meas, meas, if_neg (List.cons_ne_nil _ _)]
                 obtain ⟨f1, f2⟩ := ref_round N M D c Hc.out hN hM h1 h2 h3
                 refine ⟨⟨M / 10, c :: D, rfl, rfl, rfl, by omega, f1, f2, by repeat (first | (with_reducible exact HB) | (with_reducible exact Below.refl _ _) | (with_reducible apply bd) | (with_reducible apply ba) | (with_reducible refine bs ?_ (by first | (simp; done) | (simp; omega)) _))⟩, ?_⟩
                 by_cases hd : D = []
                 · rw [if_pos hd]; omega
                 · rw [if_neg hd]; have := hM.resolve_right hd; omega)

theorem rtext25 (u : Int) (hu : fits u = true) (w : World) :
    Calls Tryd.prog 25 #[.agg #[.int .i64 (hiW u), .int .u64 (loW u)]] w fun e w' => e = .returned (.string ⟨(Lib.itoa u).toArray⟩) ∧ Below w.heap.size w w' := by
  obtain ⟨u1, u2⟩ := fits_bd hu
  by_cases h : u < 0
  · obtain ⟨N, rfl⟩ : ∃ N : Nat, u = -(N : Int) := ⟨u.natAbs, by omega⟩
    rw [Lib.itoa_neg N (by omega)]
    have m1 : ∀ w, Calls Tryd.prog 40 #[.agg #[.int .i64 (hiW (-(N : Int))), .int .u64 (loW (-(N : Int)))]] w fun e w' => e = .returned (.agg #[.int .i64 (wrap64 (hiW N)), .int .u64 (loW N)]) ∧ Below w.heap.size w w' := fun w => by
      have := neg40 (-(N : Int)) w
      rw [hi_in u1 u2, Int.neg_neg] at this; exact this
    exact rtext25_neg N (by omega) _ _ _ w _ (decide_eq_true (by unfold hiW; omega)) m1 (by rw [IntKind.wrap_u64]; unfold wrap64 hiW; omega) rfl
  · obtain ⟨N, rfl⟩ : ∃ N : Nat, u = (N : Int) := ⟨u.toNat, by omega⟩
    rw [Lib.itoa_nonneg]
    exact rtext25_pos N (by omega) _ _ w (decide_eq_false (by unfold hiW; omega)) (by rw [IntKind.wrap_u64]; unfold hiW; omega) rfl
end Go.Proofs.YtkamnnkdadfebaaDoor
