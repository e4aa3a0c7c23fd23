import Derived.Test.YtkamnnkdadfebaaDoorB4
import Derived.Test.YtkamnnkdadfebaaDoorC2
import Derived.Lib.ConvBytes
import Derived.Lib.AtoiErrMem
namespace Go.Proofs.YtkamnnkdadfebaaDoor
open Go.RowKit
attribute [local go_sem high] eq24 eq37

/-- What a reading answers. -/
def resP : Option Int → Value
  | some v => .tuple #[.agg #[.int .i64 (hiW v), .int .u64 (loW v)], .int .i64 0]
  | none => .tuple #[.agg #[.int .i64 0, .int .u64 0], .int .i64 2]

set_option maxHeartbeats 8000000 in
set_option maxRecDepth 100000 in
theorem parse10w (S : List UInt8) (l : List UInt8) (w : World) (htab : Tab w) (hl : l.length ≤ 40) (r : Option Int) (hr : r = (parseL l 0).bind (finP S l))
    (k1 : ∀ w, Calls Tryd.prog 29 #[.string ⟨S.toArray⟩, .string ⟨#[45]⟩] w fun e w' => e = .returned (.string ⟨l.toArray⟩) ∧ w' = w) :
    Calls Tryd.prog 10 #[.string ⟨S.toArray⟩] w fun e w' => e = .returned (resP r) ∧ Below w.heap.size w w' := by
  have hcv := Lib.run_convert_string_bytes (P := Tryd.prog) (w.alloc (.cells #[.int .i64 0, .int .u64 0] 24)) 9 55 5 ⟨l.toArray⟩ Tryd.underlying9 Tryd.underlying55 Tryd.underlying5
  have hcell := Lib.bytesWorld_cell (w.alloc (.cells #[.int .i64 0, .int .u64 0] 24)) 5 ⟨l.toArray⟩
  have hbel := Lib.bytesWorld_below (w.alloc (.cells #[.int .i64 0, .int .u64 0] 24)) 5 ⟨l.toArray⟩
  have hsz := Lib.bytesWorld_size (w.alloc (.cells #[.int .i64 0, .int .u64 0] 24)) 5 ⟨l.toArray⟩
  have hc0 := ck hbel (a := ⟨w.heap.size, 0, none⟩) (v := .int .i64 0) (by go_simp)
  have hc1 := ck hbel (a := ⟨w.heap.size, 1, none⟩) (v := .int .u64 0) (by go_simp)
  have hf0 := cf hbel (b := w.heap.size) (o := 0) (by simp) (by go_simp)
  have hf1 := cf hbel (b := w.heap.size) (o := 1) (by simp) (by go_simp)
  have HB : Below w.heap.size w (Lib.bytesWorld (w.alloc (.cells #[.int .i64 0, .int .u64 0] 24)) 5 ⟨l.toArray⟩) := bt (ba (Below.refl _ _) _) hbel
  clear hbel
  generalize Lib.bytesWorld (w.alloc (.cells #[.int .i64 0, .int .u64 0] 24)) 5 ⟨l.toArray⟩ = wB at *
  rw [show (w.alloc (.cells #[.int .i64 0, .int .u64 0] 24)).heap.size = w.heap.size + 1 by simp] at hcv hcell hsz
  have hsz' : (⟨l.toArray⟩ : ByteArray).size = l.length := rfl
  rw [hsz'] at hcv hcell
  clear hsz'
  generalize grownCap (w.alloc (.cells #[.int .i64 0, .int .u64 0] 24)) l.length 0 5 = cp at *
  have hlen : ∀ w, (Builtin.len_ #[9] 3 #[.string ⟨l.toArray⟩]).run Tryd.prog w = .ok (.int .i64 l.length) w := fun w => by go_simp
  have HR := Lib.hid hr
  clear hr
  go_enter Tryd.func10, Tryd.ntmps10
  go_wp2_with (first | (go_at_call 29; refine (k1 _).mono ?_; rintro e w1 ⟨rfl, rfl⟩))
  clear hcv
  go_loop [4, 5, 25] (fun a b i => ∃ (k : Nat) (n : Int), a = .int .u64 (hiW n) ∧ b = .int .u64 (loW n) ∧ i = .int .i64 k ∧ k ≤ l.length ∧ 0 ≤ n ∧ n < 340282366920938463463374607431768211456 ∧ parseL (l.drop k) n = parseL l 0) (fun _ _ i => l.length - (intOf i).toNat)
  case atStart => exact ⟨0, 0, rfl, rfl, rfl, by omega, by omega, by omega, rfl⟩
  case round =>
    obtain ⟨k, n, rfl, rfl, rfl, h1, h2, h3, h4⟩ := hrel
    by_cases hk : k < l.length
    · have t1 : decide ((k : Int) < (l.length : Int)) = true := decide_eq_true (by omega)
      have hc := hcell k hk
      obtain ⟨c, hcb⟩ : ∃ c : UInt8, c = l[k] := ⟨_, rfl⟩
      have e1 : l.getD k 0 = c := by rw [hcb]; simp [hk]
      rw [show (⟨l.toArray⟩ : ByteArray).data.toList.getD k 0 = c from e1] at hc
      have e2 : l.drop k = c :: l.drop (k + 1) := by rw [hcb]; exact List.drop_eq_getElem_cons hk
      rw [e2, parseL] at h4
      obtain ⟨x, hx⟩ : ∃ x : Int, x = (c.toNat : Int) := ⟨_, rfl⟩
      have hx1 : 0 ≤ x ∧ x ≤ 255 := by have := c.toNat_lt; omega
      rw [← hx] at hc
      have e3 : (48 ≤ c.toNat ∧ c.toNat ≤ 57 ∧ n * 10 + ((c.toNat : Int) - 48) < 340282366920938463463374607431768211456) ↔ (48 ≤ x ∧ x ≤ 57 ∧ n * 10 + (x - 48) < 340282366920938463463374607431768211456) := by omega
      clear hcb e1 e2 hcell
      have M1 := fun w => mul30 (hiW n) 10 (by unfold hiW; omega) (by omega) (by unfold hiW; omega) (by omega) w
      have M2 := fun w => mul30 (loW n) 10 (loW_bd n).1 (by omega) (loW_bd n).2 (by omega) w
      obtain ⟨d, hdd⟩ : ∃ d : Int, d = (x - 48) % 256 := ⟨_, rfl⟩
      have hd : (x - 48) % 256 = d := hdd.symm
      obtain ⟨r1, r2, r3, r4, r5⟩ := round_law n d (by omega) (by omega)
      have A1 := fun w => add31 (loW (loW n * 10)) d 0 (loW_bd _).1 (by omega) (by omega) (by omega) w
      have A2 := fun w => add31 (loW (hiW n * 10)) (hiW (loW n * 10)) (addC (loW (loW n * 10)) d 0) (loW_bd _).1 (by unfold hiW loW; omega) r4 r5 w
      have V0 : 0 ≤ (n * 10 + d) / 340282366920938463463374607431768211456 ∧ (n * 10 + d) / 340282366920938463463374607431768211456 ≤ 100 := by omega
      have hT : IntKind.u64.wrap (hiW (hiW n * 10) + addC (loW (hiW n * 10)) (hiW (loW n * 10)) (addC (loW (loW n * 10)) d 0)) = (n * 10 + d) / 340282366920938463463374607431768211456 := by rw [r3, IntKind.wrap_u64]; omega
      have hr2 : n * 10 + d < 340282366920938463463374607431768211456 → loW (hiW (n * 10 + d)) = hiW (n * 10 + d) := by unfold hiW loW; omega
      rw [r1] at A1
      rw [r2] at A2
      clear r1 r2 r3 r4 r5
      generalize addC (loW (hiW n * 10)) (hiW (loW n * 10)) (addC (loW (loW n * 10)) d 0) = c2 at *
      generalize addC (loW (loW n * 10)) d 0 = c1 at *
      generalize hiW (hiW n * 10) = O at *
      generalize hiW (loW n * 10) = M at *
      generalize loW (hiW n * 10) = H at *
      generalize loW (loW n * 10) = L at *
      by_cases good : 48 ≤ x ∧ x ≤ 57 ∧ n * 10 + (x - 48) < 340282366920938463463374607431768211456
      · rw [if_pos (e3.2 good), ← hx] at h4
        obtain ⟨g1, g2, g3⟩ := good
        obtain rfl : d = x - 48 := by omega
        rw [hr2 (by omega)] at A2
        have V1 : (n * 10 + (x - 48)) / 340282366920938463463374607431768211456 = 0 := by omega
        rw [V1] at hT
        clear V0 V1 hdd e3 hr2 hx
        have hx2 : decide (x < 48) = false := decide_eq_false (by omega)
        have hx3 : decide (57 < x) = false := decide_eq_false (by omega)
        have K := Lib.hid (And.intro g3 h4)
        have K1 := Lib.hid (And.intro h2 h3)
        have K2 := Lib.hid (And.intro g1 g2)
        clear g1 g2 g3 h4 h2 h3
        go_wp2_with fail
        refine (M1 _).mono ?_; rintro e w1 ⟨rfl, rfl⟩
        go_wp2_with fail
        refine (M2 _).mono ?_; rintro e w1 ⟨rfl, rfl⟩
        go_wp2_with fail
        obtain ⟨g3, h4⟩ := K.out
        obtain ⟨h2, h3⟩ := K1.out
        obtain ⟨g1, g2⟩ := K2.out
        exact ⟨⟨k + 1, n * 10 + (x - 48), rfl, rfl, by go_num, by omega, by omega, by omega, h4⟩, by simp only [intOf]; omega⟩
      · rw [if_neg (fun h => good (e3.1 h))] at h4
        have hn : r = none := by rw [HR.out, ← h4]; rfl
        clear h4
        clear hx e3 hdd
        go_wp2_with fail
        refine (M1 _).mono ?_; rintro e w1 ⟨rfl, rfl⟩
        go_wp2_with fail
        refine (M2 _).mono ?_; rintro e w1 ⟨rfl, rfl⟩
        go_wp2_with fail
        all_goals
          (try simp only [Exit.inBlock, Exit.then])
          refine bodyPost_ret (v := .tuple #[.agg #[.int .i64 0, .int .u64 0], .int .i64 2]) ?_ ?_ ?_
          · simp [results, Tryd.results10, go_sem, hc0, hc1]
          · rfl
          exact ⟨by first | rfl | (rw [hn]; rfl), by repeat (first | (with_reducible exact HB) | (with_reducible exact Below.refl _ _) | (with_reducible apply bd) | (with_reducible apply ba) | (with_reducible refine bs ?_ (by first | (simp; done) | (simp; omega)) _))⟩
    · have t1 : decide ((k : Int) < (l.length : Int)) = false := decide_eq_false (by omega)
      obtain rfl : k = l.length := by omega
      rw [List.drop_length, parseL] at h4
      have HN := Lib.hid (show r = finP S l n by rw [HR.out, ← h4]; rfl)
      have hz : w.heap.size < wB.heap.size := by omega
      clear h4 HR hcell hl hsz h1 hk t1
      have H32u := fun (hn : n < 170141183460469231731687303715884105728) => fun w => signed32_up n h2 hn w
      have H32d := fun (hn : n ≤ 170141183460469231731687303715884105728) => fun w => signed32_down n h2 hn w
      have t1 : decide ((l.length : Int) < (l.length : Int)) = false := decide_eq_false (by omega)
      by_cases hs : l = S
      · have hq : (l == S) = true := beq_iff_eq.2 hs
        by_cases g1 : 170141183460469231731687303715884105728 ≤ n
        · replace HN := Lib.hid (show r = none by rw [HN.out, finP, if_pos ⟨g1, .inl hs⟩])
          have f1 : decide (9223372036854775808 ≤ hiW n) = true := decide_eq_true (by unfold hiW; omega)
          clear hs g1 H32u H32d h2 h3
          go_wp2_with fail
          (try simp only [Exit.inBlock, Exit.then])
          refine bodyPost_ret (v := .tuple #[.agg #[.int .i64 0, .int .u64 0], .int .i64 2]) ?_ ?_ ?_
          · simp [results, Tryd.results10, go_sem, hc0, hc1]
          · rfl
          exact ⟨by first | rfl | (rw [HN.out]; rfl), by repeat (first | (with_reducible exact HB) | (with_reducible exact Below.refl _ _) | (with_reducible apply bd) | (with_reducible apply ba) | (with_reducible refine bs ?_ (by first | (simp; done) | (simp; omega)) _))⟩
        · have f1 : decide (9223372036854775808 ≤ hiW n) = false := decide_eq_false (by unfold hiW; omega)
          replace H32u := H32u (by omega)
          clear H32d
          by_cases hi : Lib.itoa (n) = S
          · replace HN := Lib.hid (show r = some (n) by rw [HN.out, finP, if_neg (fun h => g1 h.1), if_pos hs, if_pos hi])
            have hq2 : (Lib.itoa (n) == S) = true := beq_iff_eq.2 hi
            clear hs hi
            go_wp2_with fail
            refine (H32u _).mono ?_; rintro e w1 ⟨rfl, hb⟩; (with_reducible (repeat replace hb := undr hb)); replace hc0 := ck hb hc0; replace hc1 := ck hb hc1; replace hf0 := cf hb hz hf0; replace hf1 := cf hb hz hf1; replace hz : w.heap.size < w1.heap.size := Nat.lt_of_lt_of_le hz hb.size; have hne : ¬ w.heap.size = w1.heap.size := Nat.ne_of_lt hz; have hne' : ¬ w1.heap.size = w.heap.size := fun e => hne e.symm; replace HB : Below w.heap.size w w1 := bt (by repeat (first | (with_reducible exact HB) | (with_reducible exact Below.refl _ _) | (with_reducible apply bd) | (with_reducible apply ba) | (with_reducible refine bs ?_ (by first | (simp; done) | (simp; omega)) _))) hb; clear hb
            go_wp2_with fail
            have T := text11 (n) (by omega) (by omega) (w1.alloc (.cells #[.int .i64 (hiW (n)), .int .u64 (loW (n))] 24)) (tab_below htab (by repeat (first | (with_reducible exact HB) | (with_reducible exact Below.refl _ _) | (with_reducible apply bd) | (with_reducible apply ba) | (with_reducible refine bs ?_ (by first | (simp; done) | (simp; omega)) _))))
            refine T.mono ?_; rintro e w2 ⟨rfl, hb⟩; (with_reducible (repeat replace hb := undr hb))
            have xc0 := ck hb (a := ⟨w1.heap.size, 0, none⟩) (v := .int .i64 (hiW (n))) (by go_simp)
            have xc1 := ck hb (a := ⟨w1.heap.size, 1, none⟩) (v := .int .u64 (loW (n))) (by go_simp)
            replace hc0 := ck hb (a := ⟨w.heap.size, 0, none⟩) (v := .int .i64 0) (by go_simp)
            replace hc1 := ck hb (a := ⟨w.heap.size, 1, none⟩) (v := .int .u64 0) (by go_simp)
            replace hf0 := cf hb (b := w.heap.size) (o := 0) (by simp; omega) (by go_simp)
            replace hf1 := cf hb (b := w.heap.size) (o := 1) (by simp; omega) (by go_simp)
            replace HB : Below w.heap.size w w2 := bt (by repeat (first | (with_reducible exact HB) | (with_reducible exact Below.refl _ _) | (with_reducible apply bd) | (with_reducible apply ba) | (with_reducible refine bs ?_ (by first | (simp; done) | (simp; omega)) _))) hb
            clear hb T
            go_wp2_with fail
            (try simp only [Exit.inBlock, Exit.then])
            refine bodyPost_ret (v := .tuple #[.agg #[.int .i64 (hiW (n)), .int .u64 (loW (n))], .int .i64 0]) ?_ ?_ ?_
            · simp [results, Tryd.results10, go_sem, hc0, hc1]
            · rfl
            exact ⟨by rw [HN.out]; rfl, by repeat (first | (with_reducible exact HB) | (with_reducible exact Below.refl _ _) | (with_reducible apply bd) | (with_reducible apply ba) | (with_reducible refine bs ?_ (by first | (simp; done) | (simp; omega)) _))⟩
          · replace HN := Lib.hid (show r = none by rw [HN.out, finP, if_neg (fun h => g1 h.1), if_pos hs, if_neg hi])
            have hq2 : (Lib.itoa (n) == S) = false := beq_eq_false_iff_ne.2 hi
            clear hs hi
            go_wp2_with fail
            refine (H32u _).mono ?_; rintro e w1 ⟨rfl, hb⟩; (with_reducible (repeat replace hb := undr hb)); replace hc0 := ck hb hc0; replace hc1 := ck hb hc1; replace hf0 := cf hb hz hf0; replace hf1 := cf hb hz hf1; replace hz : w.heap.size < w1.heap.size := Nat.lt_of_lt_of_le hz hb.size; have hne : ¬ w.heap.size = w1.heap.size := Nat.ne_of_lt hz; have hne' : ¬ w1.heap.size = w.heap.size := fun e => hne e.symm; replace HB : Below w.heap.size w w1 := bt (by repeat (first | (with_reducible exact HB) | (with_reducible exact Below.refl _ _) | (with_reducible apply bd) | (with_reducible apply ba) | (with_reducible refine bs ?_ (by first | (simp; done) | (simp; omega)) _))) hb; clear hb
            go_wp2_with fail
            have T := text11 (n) (by omega) (by omega) (w1.alloc (.cells #[.int .i64 (hiW (n)), .int .u64 (loW (n))] 24)) (tab_below htab (by repeat (first | (with_reducible exact HB) | (with_reducible exact Below.refl _ _) | (with_reducible apply bd) | (with_reducible apply ba) | (with_reducible refine bs ?_ (by first | (simp; done) | (simp; omega)) _))))
            refine T.mono ?_; rintro e w2 ⟨rfl, hb⟩; (with_reducible (repeat replace hb := undr hb))
            have xc0 := ck hb (a := ⟨w1.heap.size, 0, none⟩) (v := .int .i64 (hiW (n))) (by go_simp)
            have xc1 := ck hb (a := ⟨w1.heap.size, 1, none⟩) (v := .int .u64 (loW (n))) (by go_simp)
            replace hc0 := ck hb (a := ⟨w.heap.size, 0, none⟩) (v := .int .i64 0) (by go_simp)
            replace hc1 := ck hb (a := ⟨w.heap.size, 1, none⟩) (v := .int .u64 0) (by go_simp)
            replace hf0 := cf hb (b := w.heap.size) (o := 0) (by simp; omega) (by go_simp)
            replace hf1 := cf hb (b := w.heap.size) (o := 1) (by simp; omega) (by go_simp)
            replace HB : Below w.heap.size w w2 := bt (by repeat (first | (with_reducible exact HB) | (with_reducible exact Below.refl _ _) | (with_reducible apply bd) | (with_reducible apply ba) | (with_reducible refine bs ?_ (by first | (simp; done) | (simp; omega)) _))) hb
            clear hb T
            go_wp2_with fail
            (try simp only [Exit.inBlock, Exit.then])
            refine bodyPost_ret (v := .tuple #[.agg #[.int .i64 0, .int .u64 0], .int .i64 2]) ?_ ?_ ?_
            · simp [results, Tryd.results10, go_sem, hc0, hc1]
            · rfl
            exact ⟨by first | rfl | (rw [HN.out]; rfl), by repeat (first | (with_reducible exact HB) | (with_reducible exact Below.refl _ _) | (with_reducible apply bd) | (with_reducible apply ba) | (with_reducible refine bs ?_ (by first | (simp; done) | (simp; omega)) _))⟩
      · have hq : (l == S) = false := beq_eq_false_iff_ne.2 hs
        clear H32u
        by_cases g1 : 170141183460469231731687303715884105728 < n
        · replace HN := Lib.hid (show r = none by rw [HN.out, finP, if_pos ⟨by omega, .inr g1⟩])
          have f1 : decide (9223372036854775808 ≤ hiW n) = true := decide_eq_true (by unfold hiW; omega)
          by_cases g2 : 9223372036854775808 < hiW n
          · have f2 : decide (9223372036854775808 < hiW n) = true := decide_eq_true g2
            clear hs g1 H32d h2 h3
            go_wp2_with fail
            (try simp only [Exit.inBlock, Exit.then])
            refine bodyPost_ret (v := .tuple #[.agg #[.int .i64 0, .int .u64 0], .int .i64 2]) ?_ ?_ ?_
            · simp [results, Tryd.results10, go_sem, hc0, hc1]
            · rfl
            exact ⟨by first | rfl | (rw [HN.out]; rfl), by repeat (first | (with_reducible exact HB) | (with_reducible exact Below.refl _ _) | (with_reducible apply bd) | (with_reducible apply ba) | (with_reducible refine bs ?_ (by first | (simp; done) | (simp; omega)) _))⟩
          · have f2 : decide (9223372036854775808 < hiW n) = false := decide_eq_false g2
            have f3 : decide (0 < loW n) = true := decide_eq_true (by unfold hiW at g2; unfold loW; omega)
            clear hs g1 H32d h2 h3
            go_wp2_with fail
            (try simp only [Exit.inBlock, Exit.then])
            refine bodyPost_ret (v := .tuple #[.agg #[.int .i64 0, .int .u64 0], .int .i64 2]) ?_ ?_ ?_
            · simp [results, Tryd.results10, go_sem, hc0, hc1]
            · rfl
            exact ⟨by first | rfl | (rw [HN.out]; rfl), by repeat (first | (with_reducible exact HB) | (with_reducible exact Below.refl _ _) | (with_reducible apply bd) | (with_reducible apply ba) | (with_reducible refine bs ?_ (by first | (simp; done) | (simp; omega)) _))⟩
        · replace H32d := H32d (by omega)
          by_cases g2 : n = 170141183460469231731687303715884105728
          · have f1 : decide (9223372036854775808 ≤ hiW n) = true := decide_eq_true (by unfold hiW; omega)
            have f2 : decide (9223372036854775808 < hiW n) = false := decide_eq_false (by unfold hiW; omega)
            have f3 : decide (0 < loW n) = false := decide_eq_false (by unfold loW; omega)
            clear g2
            by_cases hi : Lib.itoa (-n) = S
            · replace HN := Lib.hid (show r = some (-n) by rw [HN.out, finP, if_neg (fun h => h.2.elim hs g1), if_neg hs, if_pos hi])
              have hq2 : (Lib.itoa (-n) == S) = true := beq_iff_eq.2 hi
              clear hs hi
              go_wp2_with fail
              refine (H32d _).mono ?_; rintro e w1 ⟨rfl, hb⟩; (with_reducible (repeat replace hb := undr hb)); replace hc0 := ck hb hc0; replace hc1 := ck hb hc1; replace hf0 := cf hb hz hf0; replace hf1 := cf hb hz hf1; replace hz : w.heap.size < w1.heap.size := Nat.lt_of_lt_of_le hz hb.size; have hne : ¬ w.heap.size = w1.heap.size := Nat.ne_of_lt hz; have hne' : ¬ w1.heap.size = w.heap.size := fun e => hne e.symm; replace HB : Below w.heap.size w w1 := bt (by repeat (first | (with_reducible exact HB) | (with_reducible exact Below.refl _ _) | (with_reducible apply bd) | (with_reducible apply ba) | (with_reducible refine bs ?_ (by first | (simp; done) | (simp; omega)) _))) hb; clear hb
              go_wp2_with fail
              have T := text11 (-n) (by omega) (by omega) (w1.alloc (.cells #[.int .i64 (hiW (-n)), .int .u64 (loW (-n))] 24)) (tab_below htab (by repeat (first | (with_reducible exact HB) | (with_reducible exact Below.refl _ _) | (with_reducible apply bd) | (with_reducible apply ba) | (with_reducible refine bs ?_ (by first | (simp; done) | (simp; omega)) _))))
              refine T.mono ?_; rintro e w2 ⟨rfl, hb⟩; (with_reducible (repeat replace hb := undr hb))
              have xc0 := ck hb (a := ⟨w1.heap.size, 0, none⟩) (v := .int .i64 (hiW (-n))) (by go_simp)
              have xc1 := ck hb (a := ⟨w1.heap.size, 1, none⟩) (v := .int .u64 (loW (-n))) (by go_simp)
              replace hc0 := ck hb (a := ⟨w.heap.size, 0, none⟩) (v := .int .i64 0) (by go_simp)
              replace hc1 := ck hb (a := ⟨w.heap.size, 1, none⟩) (v := .int .u64 0) (by go_simp)
              replace hf0 := cf hb (b := w.heap.size) (o := 0) (by simp; omega) (by go_simp)
              replace hf1 := cf hb (b := w.heap.size) (o := 1) (by simp; omega) (by go_simp)
              replace HB : Below w.heap.size w w2 := bt (by repeat (first | (with_reducible exact HB) | (with_reducible exact Below.refl _ _) | (with_reducible apply bd) | (with_reducible apply ba) | (with_reducible refine bs ?_ (by first | (simp; done) | (simp; omega)) _))) hb
              clear hb T
              go_wp2_with fail
              (try simp only [Exit.inBlock, Exit.then])
              refine bodyPost_ret (v := .tuple #[.agg #[.int .i64 (hiW (-n)), .int .u64 (loW (-n))], .int .i64 0]) ?_ ?_ ?_
              · simp [results, Tryd.results10, go_sem, hc0, hc1]
              · rfl
              exact ⟨by rw [HN.out]; rfl, by repeat (first | (with_reducible exact HB) | (with_reducible exact Below.refl _ _) | (with_reducible apply bd) | (with_reducible apply ba) | (with_reducible refine bs ?_ (by first | (simp; done) | (simp; omega)) _))⟩
            · replace HN := Lib.hid (show r = none by rw [HN.out, finP, if_neg (fun h => h.2.elim hs g1), if_neg hs, if_neg hi])
              have hq2 : (Lib.itoa (-n) == S) = false := beq_eq_false_iff_ne.2 hi
              clear hs hi
              go_wp2_with fail
              refine (H32d _).mono ?_; rintro e w1 ⟨rfl, hb⟩; (with_reducible (repeat replace hb := undr hb)); replace hc0 := ck hb hc0; replace hc1 := ck hb hc1; replace hf0 := cf hb hz hf0; replace hf1 := cf hb hz hf1; replace hz : w.heap.size < w1.heap.size := Nat.lt_of_lt_of_le hz hb.size; have hne : ¬ w.heap.size = w1.heap.size := Nat.ne_of_lt hz; have hne' : ¬ w1.heap.size = w.heap.size := fun e => hne e.symm; replace HB : Below w.heap.size w w1 := bt (by repeat (first | (with_reducible exact HB) | (with_reducible exact Below.refl _ _) | (with_reducible apply bd) | (with_reducible apply ba) | (with_reducible refine bs ?_ (by first | (simp; done) | (simp; omega)) _))) hb; clear hb
              go_wp2_with fail
              have T := text11 (-n) (by omega) (by omega) (w1.alloc (.cells #[.int .i64 (hiW (-n)), .int .u64 (loW (-n))] 24)) (tab_below htab (by repeat (first | (with_reducible exact HB) | (with_reducible exact Below.refl _ _) | (with_reducible apply bd) | (with_reducible apply ba) | (with_reducible refine bs ?_ (by first | (simp; done) | (simp; omega)) _))))
              refine T.mono ?_; rintro e w2 ⟨rfl, hb⟩; (with_reducible (repeat replace hb := undr hb))
              have xc0 := ck hb (a := ⟨w1.heap.size, 0, none⟩) (v := .int .i64 (hiW (-n))) (by go_simp)
              have xc1 := ck hb (a := ⟨w1.heap.size, 1, none⟩) (v := .int .u64 (loW (-n))) (by go_simp)
              replace hc0 := ck hb (a := ⟨w.heap.size, 0, none⟩) (v := .int .i64 0) (by go_simp)
              replace hc1 := ck hb (a := ⟨w.heap.size, 1, none⟩) (v := .int .u64 0) (by go_simp)
              replace hf0 := cf hb (b := w.heap.size) (o := 0) (by simp; omega) (by go_simp)
              replace hf1 := cf hb (b := w.heap.size) (o := 1) (by simp; omega) (by go_simp)
              replace HB : Below w.heap.size w w2 := bt (by repeat (first | (with_reducible exact HB) | (with_reducible exact Below.refl _ _) | (with_reducible apply bd) | (with_reducible apply ba) | (with_reducible refine bs ?_ (by first | (simp; done) | (simp; omega)) _))) hb
              clear hb T
              go_wp2_with fail
              (try simp only [Exit.inBlock, Exit.then])
              refine bodyPost_ret (v := .tuple #[.agg #[.int .i64 0, .int .u64 0], .int .i64 2]) ?_ ?_ ?_
              · simp [results, Tryd.results10, go_sem, hc0, hc1]
              · rfl
              exact ⟨by first | rfl | (rw [HN.out]; rfl), by repeat (first | (with_reducible exact HB) | (with_reducible exact Below.refl _ _) | (with_reducible apply bd) | (with_reducible apply ba) | (with_reducible refine bs ?_ (by first | (simp; done) | (simp; omega)) _))⟩
          · have f1 : decide (9223372036854775808 ≤ hiW n) = false := decide_eq_false (by unfold hiW; omega)
            by_cases hi : Lib.itoa (-n) = S
            · replace HN := Lib.hid (show r = some (-n) by rw [HN.out, finP, if_neg (fun h => h.2.elim hs g1), if_neg hs, if_pos hi])
              have hq2 : (Lib.itoa (-n) == S) = true := beq_iff_eq.2 hi
              clear hs hi
              go_wp2_with fail
              refine (H32d _).mono ?_; rintro e w1 ⟨rfl, hb⟩; (with_reducible (repeat replace hb := undr hb)); replace hc0 := ck hb hc0; replace hc1 := ck hb hc1; replace hf0 := cf hb hz hf0; replace hf1 := cf hb hz hf1; replace hz : w.heap.size < w1.heap.size := Nat.lt_of_lt_of_le hz hb.size; have hne : ¬ w.heap.size = w1.heap.size := Nat.ne_of_lt hz; have hne' : ¬ w1.heap.size = w.heap.size := fun e => hne e.symm; replace HB : Below w.heap.size w w1 := bt (by repeat (first | (with_reducible exact HB) | (with_reducible exact Below.refl _ _) | (with_reducible apply bd) | (with_reducible apply ba) | (with_reducible refine bs ?_ (by first | (simp; done) | (simp; omega)) _))) hb; clear hb
              go_wp2_with fail
              have T := text11 (-n) (by omega) (by omega) (w1.alloc (.cells #[.int .i64 (hiW (-n)), .int .u64 (loW (-n))] 24)) (tab_below htab (by repeat (first | (with_reducible exact HB) | (with_reducible exact Below.refl _ _) | (with_reducible apply bd) | (with_reducible apply ba) | (with_reducible refine bs ?_ (by first | (simp; done) | (simp; omega)) _))))
              refine T.mono ?_; rintro e w2 ⟨rfl, hb⟩; (with_reducible (repeat replace hb := undr hb))
              have xc0 := ck hb (a := ⟨w1.heap.size, 0, none⟩) (v := .int .i64 (hiW (-n))) (by go_simp)
              have xc1 := ck hb (a := ⟨w1.heap.size, 1, none⟩) (v := .int .u64 (loW (-n))) (by go_simp)
              replace hc0 := ck hb (a := ⟨w.heap.size, 0, none⟩) (v := .int .i64 0) (by go_simp)
              replace hc1 := ck hb (a := ⟨w.heap.size, 1, none⟩) (v := .int .u64 0) (by go_simp)
              replace hf0 := cf hb (b := w.heap.size) (o := 0) (by simp; omega) (by go_simp)
              replace hf1 := cf hb (b := w.heap.size) (o := 1) (by simp; omega) (by go_simp)
              replace HB : Below w.heap.size w w2 := bt (by repeat (first | (with_reducible exact HB) | (with_reducible exact Below.refl _ _) | (with_reducible apply bd) | (with_reducible apply ba) | (with_reducible refine bs ?_ (by first | (simp; done) | (simp; omega)) _))) hb
              clear hb T
              go_wp2_with fail
              (try simp only [Exit.inBlock, Exit.then])
              refine bodyPost_ret (v := .tuple #[.agg #[.int .i64 (hiW (-n)), .int .u64 (loW (-n))], .int .i64 0]) ?_ ?_ ?_
              · simp [results, Tryd.results10, go_sem, hc0, hc1]
              · rfl
              exact ⟨by rw [HN.out]; rfl, by repeat (first | (with_reducible exact HB) | (with_reducible exact Below.refl _ _) | (with_reducible apply bd) | (with_reducible apply ba) | (with_reducible refine bs ?_ (by first | (simp; done) | (simp; omega)) _))⟩
            · replace HN := Lib.hid (show r = none by rw [HN.out, finP, if_neg (fun h => h.2.elim hs g1), if_neg hs, if_neg hi])
              have hq2 : (Lib.itoa (-n) == S) = false := beq_eq_false_iff_ne.2 hi
              clear hs hi
              go_wp2_with fail
              refine (H32d _).mono ?_; rintro e w1 ⟨rfl, hb⟩; (with_reducible (repeat replace hb := undr hb)); replace hc0 := ck hb hc0; replace hc1 := ck hb hc1; replace hf0 := cf hb hz hf0; replace hf1 := cf hb hz hf1; replace hz : w.heap.size < w1.heap.size := Nat.lt_of_lt_of_le hz hb.size; have hne : ¬ w.heap.size = w1.heap.size := Nat.ne_of_lt hz; have hne' : ¬ w1.heap.size = w.heap.size := fun e => hne e.symm; replace HB : Below w.heap.size w w1 := bt (by repeat (first | (with_reducible exact HB) | (with_reducible exact Below.refl _ _) | (with_reducible apply bd) | (with_reducible apply ba) | (with_reducible refine bs ?_ (by first | (simp; done) | (simp; omega)) _))) hb; clear hb
              go_wp2_with fail
              have T := text11 (-n) (by omega) (by omega) (w1.alloc (.cells #[.int .i64 (hiW (-n)), .int .u64 (loW (-n))] 24)) (tab_below htab (by repeat (first | (with_reducible exact HB) | (with_reducible exact Below.refl _ _) | (with_reducible apply bd) | (with_reducible apply ba) | (with_reducible refine bs ?_ (by first | (simp; done) | (simp; omega)) _))))
              refine T.mono ?_; rintro e w2 ⟨rfl, hb⟩; (with_reducible (repeat replace hb := undr hb))
              have xc0 := ck hb (a := ⟨w1.heap.size, 0, none⟩) (v := .int .i64 (hiW (-n))) (by go_simp)
              have xc1 := ck hb (a := ⟨w1.heap.size, 1, none⟩) (v := .int .u64 (loW (-n))) (by go_simp)
              replace hc0 := ck hb (a := ⟨w.heap.size, 0, none⟩) (v := .int .i64 0) (by go_simp)
              replace hc1 := ck hb (a := ⟨w.heap.size, 1, none⟩) (v := .int .u64 0) (by go_simp)
              replace hf0 := cf hb (b := w.heap.size) (o := 0) (by simp; omega) (by go_simp)
              replace hf1 := cf hb (b := w.heap.size) (o := 1) (by simp; omega) (by go_simp)
              replace HB : Below w.heap.size w w2 := bt (by repeat (first | (with_reducible exact HB) | (with_reducible exact Below.refl _ _) | (with_reducible apply bd) | (with_reducible apply ba) | (with_reducible refine bs ?_ (by first | (simp; done) | (simp; omega)) _))) hb
              clear hb T
              go_wp2_with fail
              (try simp only [Exit.inBlock, Exit.then])
              refine bodyPost_ret (v := .tuple #[.agg #[.int .i64 0, .int .u64 0], .int .i64 2]) ?_ ?_ ?_
              · simp [results, Tryd.results10, go_sem, hc0, hc1]
              · rfl
              exact ⟨by first | rfl | (rw [HN.out]; rfl), by repeat (first | (with_reducible exact HB) | (with_reducible exact Below.refl _ _) | (with_reducible apply bd) | (with_reducible apply ba) | (with_reducible refine bs ?_ (by first | (simp; done) | (simp; omega)) _))⟩

set_option maxHeartbeats 1000000 in
set_option maxRecDepth 100000 in
theorem parse10l (S : List UInt8) (l : List UInt8) (w : World) (hl : 40 < l.length)
    (k1 : ∀ w, Calls Tryd.prog 29 #[.string ⟨S.toArray⟩, .string ⟨#[45]⟩] w fun e w' => e = .returned (.string ⟨l.toArray⟩) ∧ w' = w) :
    Calls Tryd.prog 10 #[.string ⟨S.toArray⟩] w fun e w' => e = .returned (resP none) ∧ Below w.heap.size w w' := by
  have HB := Below.refl w.heap.size w
  have hlen : ∀ w, (Builtin.len_ #[9] 3 #[.string ⟨l.toArray⟩]).run Tryd.prog w = .ok (.int .i64 l.length) w := fun w => by go_simp
  have t1 : decide ((40 : Int) < (l.length : Int)) = true := decide_eq_true (by omega)
  go_enter Tryd.func10, Tryd.ntmps10
  go_wp2_with (first | (go_at_call 29; refine (k1 _).mono ?_; rintro e w1 ⟨rfl, rfl⟩))
  (try simp only [Exit.inBlock, Exit.then])
  refine bodyPost_ret (v := .tuple #[.agg #[.int .i64 0, .int .u64 0], .int .i64 2]) ?_ ?_ ?_
  · simp [results, Tryd.results10, go_sem]
  · rfl
  exact ⟨rfl, by repeat (first | (with_reducible exact HB) | (with_reducible exact Below.refl _ _) | (with_reducible apply bd) | (with_reducible apply ba) | (with_reducible refine bs ?_ (by first | (simp; done) | (simp; omega)) _))⟩

/-- The number of a text. -/
theorem parse10 (S : List UInt8) (w : World) (htab : Tab w) :
    Calls Tryd.prog 10 #[.string ⟨S.toArray⟩] w fun e w' => e = .returned (resP (parseW S)) ∧ Below w.heap.size w w' := by
  have k1 := Tryd.strings_TrimPrefix ⟨S.toArray⟩ ⟨#[45]⟩
  rw [show Lib.trimPrefix (⟨S.toArray⟩ : ByteArray).data.toList (⟨#[45]⟩ : ByteArray).data.toList = Lib.trimPrefix S [45] by rfl] at k1
  unfold parseW
  by_cases h : 40 < (Lib.trimPrefix S [45]).length
  · rw [if_pos h]; exact parse10l S _ w h k1
  · rw [if_neg h]; exact parse10w S _ w htab (by omega) _ rfl k1
end Go.Proofs.YtkamnnkdadfebaaDoor
