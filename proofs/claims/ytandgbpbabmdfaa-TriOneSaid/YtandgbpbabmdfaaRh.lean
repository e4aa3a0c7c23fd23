/- A region that draws its order, by a table; what has come up is closed under what must come before. -/
import Derived.Test.YtandgbpbabmdfaaRg
import Derived.Test.YtandgbpbabmdfaaT15
namespace Go.Proofs.Ytandgbpbabmdfaa
open Go

section
variable {P : Program} {ops : Array Oper} {Q : Exit → Act → World → Prop}

/-- With an operation all that it waits for has come up. -/
def Down (ops : Array Oper) (L : Nat → Bool) : Prop := ∀ k o, ops[k]? = some o → L k = true → ∀ e ∈ o.after, Region.binds .any e = true → L e.on = true

theorem Down.step {L : Nat → Bool} (h : Down ops L) {k j : Nat} (he : ((ops[k]?).any fun o => o.after.any fun e => e.on == j && Region.binds .any e) = true) (hk : L k = true) : L j = true := by
  cases ho : ops[k]? with
  | none => rw [ho] at he; cases he
  | some o =>
    rw [ho] at he
    simp only [Option.any_some, Array.any_eq_true'] at he
    obtain ⟨e, hm, hb⟩ := he
    rw [Bool.and_eq_true, beq_iff_eq] at hb
    rw [← hb.1]; exact h k o ho hk e hm hb.2

theorem want_un {t : Array Value} {o : Oper} {j d : Nat} {b : Bool} (hg : o.guard = some (j, b)) (hj : (ops[j]?).bind (·.dst) = some d) (h : t[d]? = some undef) : Region.wanted o (yielded ops t) = false := by
  unfold Region.wanted yielded; rw [hg]; dsimp only; rw [hj]; simp [h, undef]

theorem Down.not {L : Nat → Bool} {k j : Nat} (h : L k = true → L j = true) (hj : L j = false) : L k = false := by
  cases hk : L k with
  | false => rfl
  | true => rw [h hk] at hj; cases hj

theorem region_tab2 {G : Type} {id : Nat} {ops' : Array Oper} {a : Act} {w : World} (V : G → Nat → Value) (S : G → (Nat → Bool) → World → Prop) (g0 : G)
    (hm : P.follows .mixedOrders = true) (ho : ops' = ops) (ht : tidy ops a.tmps.size = true)
    (h0 : S g0 (fun _ => false) w.drew)
    (hs : ∀ i o, ops[i]? = some o → ∀ g L b w', L i = false → Down ops L → (∀ e ∈ o.after, Region.binds .any e = true → L e.on = true) → Told ops (V g) a L b → S g L w' →
      wpOp P ops Q i (fun b' w'' => ∃ g', (∀ j, L j = true → V g' j = V g j) ∧ b' = b.put o.dst (V g' i) ∧ S g' (fun j => j == i || L j) w'') b w')
    (he : ∀ g b w', Told ops (V g) a (fun j => decide (j < ops.size)) b → S g (fun j => decide (j < ops.size)) w' → Q .normal b w') :
    (Code.region id ops' true).wp P Q a w := by
  refine region_tab V (fun g L w' => S g L w' ∧ Down ops L) g0 hm ho ht ⟨h0, fun k o _ h => by cases h⟩ ?_ (fun g b w' hT hS => he g b w' hT hS.1)
  intro i o hoi g L b w' hun hpre hT hS
  refine wpOp_mono (fun b' w'' hh => ?_) (hs i o hoi g L b w' hun hS.2 hpre hT hS.1)
  obtain ⟨g', h1, h2, h3⟩ := hh
  refine ⟨g', h1, h2, h3, fun k o' hk hL e hem hb => ?_⟩
  dsimp only at hL ⊢
  by_cases hki : k = i
  · subst hki
    rw [hoi] at hk; obtain rfl := Option.some.inj hk
    rw [hpre e hem hb, Bool.or_true]
  · have hk' : L k = true := by
      rcases Bool.or_eq_true_iff.1 hL with h | h
      · exact absurd (eq_of_beq h) hki
      · exact h
    rw [hS.2 k o' hk hk' e hem hb, Bool.or_true]
end

/-- Cells behind a store: elsewhere, beside, there. -/
theorem so {w : World} {b o b' o' : Nat} {u v : Value} (h : w.cell? ⟨b, o, none⟩ = some v) (hne : ¬ b = b') : (w.setCell ⟨b', o', none⟩ u).cell? ⟨b, o, none⟩ = some v := by
  rw [World.cell?_setCell_other _ _ _ _ (fun e => hne (by injection e with e1; exact e1.symm))]; exact h
theorem sb {w : World} {b o o' : Nat} {u v : Value} (h : w.cell? ⟨b, o, none⟩ = some v) (hne : ¬ o = o') : (w.setCell ⟨b, o', none⟩ u).cell? ⟨b, o, none⟩ = some v := by
  rw [World.cell?_setCell_other _ _ _ _ (fun e => hne (by injection e with e1 e2; exact e2.symm))]; exact h
theorem ss {w : World} {a : Addr} {u v : Value} (h : w.cell? a = some u) : (w.setCell a v).cell? a = some v := World.cell?_setCell_same _ _ _ h
theorem sf {w : World} {a p : Addr} {u : Value} (h : w.frozen? a = false) : (w.setCell p u).frozen? a = false := by rw [World.frozen?_setCell]; exact h
theorem szl {w : World} {n : Nat} {p : Addr} {u : Value} (h : n < w.heap.size) : n < (w.setCell p u).heap.size := by simp; exact h
theorem sz {w v : World} {p : Addr} {u : Value} (h : v.heap.size ≤ w.heap.size) : v.heap.size ≤ (w.setCell p u).heap.size := by simp; exact h
end Go.Proofs.Ytandgbpbabmdfaa
