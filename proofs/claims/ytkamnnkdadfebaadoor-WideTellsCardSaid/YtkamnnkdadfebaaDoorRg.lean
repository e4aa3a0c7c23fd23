/- A region that draws its order, by a table: what each operation leaves, whatever has come up before it. -/
import Derived.Test.YtkamnnkdadfebaaDoorA0
namespace Go.Proofs.YtkamnnkdadfebaaDoor
open Go

/-- A region of a function, by its number. -/
def findReg : Code → Nat → Option (Array Oper)
  | .region id ops _, k => if id = k then some ops else none
  | .seq a b, k => (findReg a k).or (findReg b k)
  | .cond _ a b, k => (findReg a k).or (findReg b k)
  | .block _ c, k => findReg c k
  | .loop c, k => findReg c k
  | .rangeFunc _ _ a b, k => (findReg a k).or (findReg b k)
  | .scope c, k => findReg c k
  | _, _ => none
def regOps (f : Func) (k : Nat) : Array Oper := (f.body.bind (findReg · k)).getD #[]

section
variable {P : Program} {ops : Array Oper} {Q : Exit → Act → World → Prop}

/-- What a state holds when the operations in L have come up. -/
def Told (ops : Array Oper) (V : Nat → Value) (base : Act) (L : Nat → Bool) (a : Act) : Prop :=
  a.defers = base.defers ∧ a.tmps.size = base.tmps.size ∧
  (∀ k, (∀ i : Nat, ∀ o : Oper, ops[i]? = some o → o.dst ≠ some k) → a.tmps[k]? = base.tmps[k]?) ∧
  (∀ i : Nat, ∀ (o : Oper) d, ops[i]? = some o → o.dst = some d → L i = true → a.tmps[d]? = some (V i))

/-- Every edge that binds comes from an operation ahead in the text; each temporary is of one operation, and is there. -/
def tidy (ops : Array Oper) (n : Nat) : Bool :=
  (List.range ops.size).all fun i => match ops[i]? with
    | none => true
    | some o => o.after.all (fun e => !Region.binds .any e || decide (e.on < i)) && (match o.dst with
      | none => true
      | some d => decide (d < n) && (List.range ops.size).all fun j => j == i || (match ops[j]? with | none => true | some o' => o'.dst != some d))

theorem tidy_spec {n : Nat} (h : tidy ops n = true) {i : Nat} {o : Oper} (hi : ops[i]? = some o) :
    (∀ e ∈ o.after, Region.binds .any e = true → e.on < i) ∧ ∀ d, o.dst = some d → d < n ∧ ∀ (j : Nat) (o' : Oper), j ≠ i → ops[j]? = some o' → o'.dst ≠ some d := by
  unfold tidy at h
  rw [List.all_eq_true] at h
  have hlt : i < ops.size := (Array.getElem?_eq_some_iff.1 hi).1
  have h1 := h i (List.mem_range.2 hlt)
  rw [hi] at h1
  dsimp only at h1
  rw [Bool.and_eq_true] at h1
  refine ⟨fun e he hb => by have := Array.all_eq_true_iff_forall_mem.1 h1.1 e he; rw [hb, Bool.not_true, Bool.false_or] at this; exact of_decide_eq_true this, fun d hd => ?_⟩
  have h2 := h1.2
  rw [hd] at h2
  dsimp only at h2
  rw [Bool.and_eq_true, List.all_eq_true] at h2
  refine ⟨of_decide_eq_true h2.1, fun j o' hne hj hd' => ?_⟩
  have hjlt : j < ops.size := (Array.getElem?_eq_some_iff.1 hj).1
  have h3 := h2.2 j (List.mem_range.2 hjlt)
  rw [hj] at h3
  dsimp only at h3
  rw [Bool.or_eq_true, beq_iff_eq, hd'] at h3
  rcases h3 with h3 | h3
  · exact hne h3
  · simp at h3

/-- One more has come up. -/
theorem Told.put {V V' : Nat → Value} {base a : Act} {L L' : Nat → Bool} {i : Nat} {o : Oper} (ht : tidy ops base.tmps.size = true) (h : Told ops V base L a) (hi : ops[i]? = some o)
    (hL : ∀ j, L' j = true → j = i ∨ L j = true) (hV : ∀ j, L j = true → V' j = V j) : Told ops V' base L' (a.put o.dst (V' i)) := by
  obtain ⟨h1, h2, h3, h4⟩ := h
  obtain ⟨_, hd⟩ := tidy_spec ht hi
  cases hdst : o.dst with
  | none =>
    refine ⟨h1, h2, h3, fun j o' d hj hod hl => ?_⟩
    rcases hL j hl with rfl | hl'
    · rw [hi] at hj; obtain rfl := Option.some.inj hj; rw [hdst] at hod; cases hod
    · rw [hV j hl']; exact h4 j o' d hj hod hl'
  | some d0 =>
    obtain ⟨hlt, huniq⟩ := hd d0 hdst
    refine ⟨h1, by simp only [Act.put, Array.size_setIfInBounds]; exact h2, fun k hk => ?_, fun j o' d hj hod hl => ?_⟩
    · have hne : d0 ≠ k := fun e => hk i o hi (by rw [hdst, e])
      simp only [Act.put]
      rw [Array.getElem?_setIfInBounds_ne hne]
      exact h3 k hk
    · simp only [Act.put]
      by_cases hji : j = i
      · subst hji
        rw [hi] at hj; obtain rfl := Option.some.inj hj
        rw [hdst] at hod; obtain rfl := Option.some.inj hod
        rw [Array.getElem?_setIfInBounds_self_of_lt (by rw [h2]; exact hlt)]
      · have hl' := (hL j hl).resolve_left hji
        have hne : d0 ≠ d := fun e => huniq j o' hji hj (by rw [hod, e])
        rw [Array.getElem?_setIfInBounds_ne hne, hV j hl']
        exact h4 j o' d hj hod hl'

theorem Told.read {V : Nat → Value} {base a : Act} {L : Nat → Bool} (h : Told ops V base L a) {i : Nat} {o : Oper} {d : Nat} (hi : ops[i]? = some o) (hd : o.dst = some d) (hl : L i = true) :
    a.tmps[d]? = some (V i) := h.2.2.2 i o d hi hd hl

/-- How many have not come up. -/
def left (L : Array Bool) : Nat := L.toList.countP (fun b => !b)

theorem left_set {L : Array Bool} {i : Nat} (h : L.getD i true = false) : left (L.setIfInBounds i true) + 1 = left L := by
  have hlt : i < L.size := by
    by_cases hi : i < L.size
    · exact hi
    · rw [Array.getD, dif_neg hi] at h; cases h
  have hv : L[i] = false := by rw [Array.getD, dif_pos hlt] at h; exact h
  unfold left
  rw [Array.toList_setIfInBounds, List.countP_set (by simpa using hlt)]
  have e : L.toList[i]'(by simpa using hlt) = false := by simpa using hv
  rw [e]
  have pos : 0 < L.toList.countP (fun b => !b) := List.countP_pos_iff.2 ⟨false, by rw [← e]; exact List.getElem_mem _, rfl⟩
  simp only [Bool.not_false, Bool.not_true, if_true, Bool.false_eq_true, if_false]
  omega

/-- **The law.** -/
theorem region_tab {G : Type} {id : Nat} {ops' : Array Oper} {a : Act} {w : World} (V : G → Nat → Value) (S : G → (Nat → Bool) → World → Prop) (g0 : G)
    (hm : P.follows .mixedOrders = true) (ho : ops' = ops) (ht : tidy ops a.tmps.size = true)
    (h0 : S g0 (fun _ => false) w.drew)
    (hs : ∀ i o, ops[i]? = some o → ∀ g L b w', L i = false → (∀ e ∈ o.after, Region.binds .any e = true → L e.on = true) → Told ops (V g) a L b → S g L w' →
      wpOp P ops Q i (fun b' w'' => ∃ g', (∀ j, L j = true → V g' j = V g j) ∧ b' = b.put o.dst (V g' i) ∧ S g' (fun j => j == i || L j) w'') b w')
    (he : ∀ g b w', Told ops (V g) a (fun j => decide (j < ops.size)) b → S g (fun j => decide (j < ops.size)) w' → Q .normal b w') :
    (Code.region id ops' true).wp P Q a w := by
  subst ho
  refine wp_region_any hm ?_
  -- what holds all the way
  have key : ∀ (fuel : Nat) (Ls : Array Bool) (g : G) (b : Act) (w' : World), Ls.size = ops'.size → left Ls ≤ fuel →
      Told ops' (V g) a (fun j => decide (j < ops'.size) && Ls.getD j false) b → S g (fun j => decide (j < ops'.size) && Ls.getD j false) w' → wpAny P .any ops' Q fuel Ls b w' := by
    intro fuel
    have fin : ∀ (Ls : Array Bool) (g : G) (b : Act) (w' : World), Ls.size = ops'.size → Region.ready .any ops' Ls = [] →
        Told ops' (V g) a (fun j => decide (j < ops'.size) && Ls.getD j false) b → S g (fun j => decide (j < ops'.size) && Ls.getD j false) w' → Q .normal b w' := by
      intro Ls g b w' hsz hr hT hS
      have all : ∀ i, i < ops'.size → Ls.getD i false = true := by
        intro i
        induction i using Nat.strongRecOn with
        | ind i ih =>
          intro hi
          cases hb : Ls.getD i false with
          | true => rfl
          | false =>
            exfalso
            have hlt : i < Ls.size := by omega
            have hoi : ops'[i]? = some ops'[i] := Array.getElem?_eq_some_iff.2 ⟨hi, rfl⟩
            have : i ∈ Region.ready .any ops' Ls := mem_ready.2 ⟨by
              rw [Array.getD, dif_pos hlt] at hb ⊢; exact hb, ops'[i], hoi, fun e hee hb => ih e.on ((tidy_spec ht hoi).1 e hee hb) (Nat.lt_trans ((tidy_spec ht hoi).1 e hee hb) hi)⟩
            rw [hr] at this; cases this
      have eL : (fun j => decide (j < ops'.size) && Ls.getD j false) = (fun j => decide (j < ops'.size)) := by
        funext j
        by_cases hj : j < ops'.size
        · rw [all j hj]; simp
        · simp [hj]
      rw [eL] at hT hS
      exact he g b w' hT hS
    induction fuel with
    | zero =>
      intro Ls g b w' hsz hl hT hS
      have hr : Region.ready .any ops' Ls = [] := by
        cases hh : Region.ready .any ops' Ls with
        | nil => rfl
        | cons i rs =>
          exfalso
          have hi : i ∈ Region.ready .any ops' Ls := by rw [hh]; exact List.mem_cons_self
          have := left_set (mem_ready.1 hi).1
          omega
      exact ⟨hr, fin Ls g b w' hsz hr hT hS⟩
    | succ fuel ih =>
      intro Ls g b w' hsz hl hT hS
      refine ⟨fun hr => fin Ls g b w' hsz hr hT hS, fun i hi => ?_⟩
      obtain ⟨hun, o, hoi, hall⟩ := mem_ready.1 hi
      have hlt : i < ops'.size := (Array.getElem?_eq_some_iff.1 hoi).1
      have hlL : i < Ls.size := by omega
      have hLi : Ls.getD i false = false := by rw [Array.getD, dif_pos hlL] at hun ⊢; exact hun
      have hle := left_set hun
      have grow : (fun j => j == i || (decide (j < ops'.size) && Ls.getD j false)) = (fun j => decide (j < ops'.size) && (Ls.setIfInBounds i true).getD j false) := by
        funext j
        by_cases hj : j = i
        · subst hj
          simp [Array.getD, hlt, hlL]
        · have hji : i ≠ j := fun e => hj e.symm
          have : (j == i) = false := by simp [hj]
          rw [this, Bool.false_or]
          congr 1
          simp only [Array.getD_eq_getD_getElem?, Array.getElem?_setIfInBounds_ne hji]
      refine wpOp_mono (fun b' w'' hh => ?_) (hs i o hoi g _ b w' (by rw [hLi]; simp) (fun e hee hb => by
        have := hall e hee hb
        rw [this, decide_eq_true (Nat.lt_trans ((tidy_spec ht hoi).1 e hee hb) hlt)]; rfl) hT hS)
      obtain ⟨g', hV, rfl, hS'⟩ := hh
      refine ih _ g' _ _ (by simpa using hsz) (by omega) ?_ ?_
      · rw [← grow]
        exact hT.put ht hoi (fun j hj => by
          rcases Bool.or_eq_true_iff.1 hj with h | h
          · exact .inl (eq_of_beq h)
          · exact .inr h) hV
      · rw [← grow]; exact hS'
  refine key ops'.size _ g0 a _ (by simp) (by unfold left; simp; exact Nat.le_trans (List.countP_le_length) (by simp)) ⟨rfl, rfl, fun _ _ => rfl, fun i o d hi hd hl => ?_⟩ ?_
  · simp at hl
    have : i < ops'.size := (Array.getElem?_eq_some_iff.1 hi).1
    simp [this] at hl
  · have eL : (fun j => decide (j < ops'.size) && (Array.replicate ops'.size false).getD j false) = (fun _ => false) := by
      funext j
      by_cases hj : j < ops'.size
      · simp [Array.getD, hj]
      · simp [hj]
    rw [eL]; exact h0

/-- All of a table's values, laid into the temporaries. -/
def fill (ops : Array Oper) (V : Nat → Value) (t : Array Value) : Nat → Array Value
  | 0 => t
  | n + 1 => match (ops[n]?).bind (·.dst) with
    | some d => (fill ops V t n).setIfInBounds d (V n)
    | none => fill ops V t n

theorem fill_spec {V : Nat → Value} {t : Array Value} (ht : tidy ops t.size = true) (n : Nat) :
    (fill ops V t n).size = t.size ∧ (∀ k, (∀ i : Nat, ∀ o : Oper, i < n → ops[i]? = some o → o.dst ≠ some k) → (fill ops V t n)[k]? = t[k]?) ∧
    (∀ i : Nat, ∀ (o : Oper) d, i < n → ops[i]? = some o → o.dst = some d → (fill ops V t n)[d]? = some (V i)) := by
  induction n with
  | zero => exact ⟨rfl, fun _ _ => rfl, fun i _ _ h => absurd h (Nat.not_lt_zero i)⟩
  | succ n ih =>
    obtain ⟨h1, h2, h3⟩ := ih
    cases hb : (ops[n]?).bind (·.dst) with
    | none =>
      have e : fill ops V t (n + 1) = fill ops V t n := by simp only [fill, hb]
      rw [e]
      refine ⟨h1, fun k hk => h2 k fun i o hi => hk i o (by omega), fun i o d hi hoi hd => ?_⟩
      by_cases hin : i = n
      · subst hin; rw [hoi] at hb; simp [hd] at hb
      · exact h3 i o d (by omega) hoi hd
    | some d0 =>
      have e : fill ops V t (n + 1) = (fill ops V t n).setIfInBounds d0 (V n) := by simp only [fill, hb]
      obtain ⟨on, hon, hdn⟩ := Option.bind_eq_some_iff.1 hb
      obtain ⟨_, hspec⟩ := tidy_spec ht hon
      obtain ⟨hlt, huniq⟩ := hspec d0 hdn
      rw [e]
      refine ⟨by rw [Array.size_setIfInBounds, h1], fun k hk => ?_, fun i o d hi hoi hd => ?_⟩
      · have hne : d0 ≠ k := fun e => hk n on (by omega) hon (by rw [hdn, e])
        rw [Array.getElem?_setIfInBounds_ne hne]
        exact h2 k fun i o hi => hk i o (by omega)
      · by_cases hin : i = n
        · subst hin
          rw [hon] at hoi; obtain rfl := Option.some.inj hoi
          rw [hdn] at hd; obtain rfl := Option.some.inj hd
          rw [Array.getElem?_setIfInBounds_self_of_lt (by rw [h1]; exact hlt)]
        · have hne : d0 ≠ d := fun e => huniq i o hin hoi (by rw [hd, e])
          rw [Array.getElem?_setIfInBounds_ne hne]
          exact h3 i o d (by omega) hoi hd

/-- When all have come up. -/
theorem Told.all {V : Nat → Value} {base b : Act} (ht : tidy ops base.tmps.size = true) (h : Told ops V base (fun j => decide (j < ops.size)) b) :
    b = ⟨fill ops V base.tmps ops.size, base.defers⟩ := by
  obtain ⟨h1, h2, h3, h4⟩ := h
  obtain ⟨f1, f2, f3⟩ := fill_spec (ops := ops) (V := V) ht ops.size
  obtain ⟨bt, bd⟩ := b
  dsimp only at h1 h2 h3 h4
  subst h1
  congr 1
  refine Array.ext_getElem? fun k => ?_
  by_cases hk : ∃ (i : Nat) (o : Oper), ops[i]? = some o ∧ o.dst = some k
  · obtain ⟨i, o, hoi, hd⟩ := hk
    have hi : i < ops.size := (Array.getElem?_eq_some_iff.1 hoi).1
    rw [h4 i o k hoi hd (decide_eq_true hi), f3 i o k hi hoi hd]
  · rw [h3 k fun i o hoi hd => hk ⟨i, o, hoi, hd⟩, f2 k fun i o _ hoi hd => hk ⟨i, o, hoi, hd⟩]

theorem Told.at {V : Nat → Value} {base b : Act} {L : Nat → Bool} (h : Told ops V base L b) (j : Nat) {d : Nat} (hj : (ops[j]?).bind (·.dst) = some d) (hl : L j = true) : b.tmps[d]? = some (V j) := by
  obtain ⟨o, ho, hd⟩ := Option.bind_eq_some_iff.1 hj
  exact h.read ho hd hl
theorem Told.old {V : Nat → Value} {base b : Act} {L : Nat → Bool} (h : Told ops V base L b) (k : Nat) (hk : (ops.all fun o => o.dst != some k) = true) : b.tmps[k]? = base.tmps[k]? :=
  h.2.2.1 k fun i o hi he => by
    have := Array.all_eq_true_iff_forall_mem.1 hk o (Array.mem_of_getElem? hi)
    rw [he] at this; simp at this
theorem pre_of {L : Nat → Bool} {o : Oper} (h : ∀ e ∈ o.after, Region.binds .any e = true → L e.on = true) (j : Nat) (hj : (o.after.any fun e => e.on == j && Region.binds .any e) = true) : L j = true := by
  rw [Array.any_eq_true'] at hj
  obtain ⟨e, he, hb⟩ := hj
  rw [Bool.and_eq_true, beq_iff_eq] at hb
  rw [← hb.1]; exact h e he hb.2
theorem rd {t : Array Value} {d : Nat} {v : Value} (h : t[d]? = some v) : t.getD d undef = v := by rw [Array.getD_eq_getD_getElem?, h]; rfl
theorem want_yes {t : Array Value} {o : Oper} {j d : Nat} {b : Bool} (hg : o.guard = some (j, b)) (hj : (ops[j]?).bind (·.dst) = some d) (h : t[d]? = some (.bool b)) : Region.wanted o (yielded ops t) = true := by
  unfold Region.wanted yielded; rw [hg]; dsimp only; rw [hj]; simp [h]
theorem want_no {t : Array Value} {o : Oper} {j d : Nat} {b : Bool} (hg : o.guard = some (j, b)) (hj : (ops[j]?).bind (·.dst) = some d) (h : t[d]? = some (.bool !b)) : Region.wanted o (yielded ops t) = false := by
  unfold Region.wanted yielded; rw [hg]; dsimp only; rw [hj]; simp [h]
theorem want_all {t : Array Value} {o : Oper} (hg : o.guard = none) : Region.wanted o (yielded ops t) = true := by
  unfold Region.wanted; rw [hg]
theorem op_go {i : Nat} {o : Oper} {K : Act → World → Prop} {a : Act} {w : World} (hi : ops[i]? = some o) (hw : Region.wanted o (yielded ops a.tmps) = true) (h : ∀ K' : Act → World → Prop, (∀ a w, K a w → K' a w) → o.wp P a w K' Q) : wpOp P ops Q i K a w := by
  unfold wpOp; rw [hi]; dsimp only; rw [if_pos hw]; exact .inl (h K fun _ _ h => h)
theorem op_not {i : Nat} {o : Oper} {K : Act → World → Prop} {a : Act} {w : World} (hi : ops[i]? = some o) (hw : Region.wanted o (yielded ops a.tmps) = false) (h : K (a.put o.dst undef) w) : wpOp P ops Q i K a w := by
  unfold wpOp; rw [hi]; dsimp only; rw [if_neg (by rw [hw]; decide)]; exact h

end

section
variable {P : Program} {ops : Array Oper} {Q : Exit → Act → World → Prop}

/-- With an operation all that it waits for has come up. -/
def Down (ops : Array Oper) (L : Nat → Bool) : Prop := ∀ k o, ops[k]? = some o → L k = true → ∀ e ∈ o.after, Region.binds .any e = true → L e.on = true

theorem Down.step {L : Nat → Bool} (h : Down ops L) {k j : Nat} (he : ((ops[k]?).any fun o => o.after.any fun e => e.on == j && Region.binds .any e) = true) (hk : L k = true) : L j = true := by
  cases ho : ops[k]? with
  | none => rw [ho] at he; cases he
  | some o =>
    rw [ho] at he
    simp only [Option.any_some, Array.any_eq_true'] at he
    obtain ⟨e, hm, hb⟩ := he
    rw [Bool.and_eq_true, beq_iff_eq] at hb
    rw [← hb.1]; exact h k o ho hk e hm hb.2

theorem want_un {t : Array Value} {o : Oper} {j d : Nat} {b : Bool} (hg : o.guard = some (j, b)) (hj : (ops[j]?).bind (·.dst) = some d) (h : t[d]? = some undef) : Region.wanted o (yielded ops t) = false := by
  unfold Region.wanted yielded; rw [hg]; dsimp only; rw [hj]; simp [h, undef]

theorem Down.not {L : Nat → Bool} {k j : Nat} (h : L k = true → L j = true) (hj : L j = false) : L k = false := by
  cases hk : L k with
  | false => rfl
  | true => rw [h hk] at hj; cases hj

theorem region_tab2 {G : Type} {id : Nat} {ops' : Array Oper} {a : Act} {w : World} (V : G → Nat → Value) (S : G → (Nat → Bool) → World → Prop) (g0 : G)
    (hm : P.follows .mixedOrders = true) (ho : ops' = ops) (ht : tidy ops a.tmps.size = true)
    (h0 : S g0 (fun _ => false) w.drew)
    (hs : ∀ i o, ops[i]? = some o → ∀ g L b w', L i = false → Down ops L → (∀ e ∈ o.after, Region.binds .any e = true → L e.on = true) → Told ops (V g) a L b → S g L w' →
      wpOp P ops Q i (fun b' w'' => ∃ g', (∀ j, L j = true → V g' j = V g j) ∧ b' = b.put o.dst (V g' i) ∧ S g' (fun j => j == i || L j) w'') b w')
    (he : ∀ g b w', Told ops (V g) a (fun j => decide (j < ops.size)) b → S g (fun j => decide (j < ops.size)) w' → Q .normal b w') :
    (Code.region id ops' true).wp P Q a w := by
  refine region_tab V (fun g L w' => S g L w' ∧ Down ops L) g0 hm ho ht ⟨h0, fun k o _ h => by cases h⟩ ?_ (fun g b w' hT hS => he g b w' hT hS.1)
  intro i o hoi g L b w' hun hpre hT hS
  refine wpOp_mono (fun b' w'' hh => ?_) (hs i o hoi g L b w' hun hS.2 hpre hT hS.1)
  obtain ⟨g', h1, h2, h3⟩ := hh
  refine ⟨g', h1, h2, h3, fun k o' hk hL e hem hb => ?_⟩
  dsimp only at hL ⊢
  by_cases hki : k = i
  · subst hki
    rw [hoi] at hk; obtain rfl := Option.some.inj hk
    rw [hpre e hem hb, Bool.or_true]
  · have hk' : L k = true := by
      rcases Bool.or_eq_true_iff.1 hL with h | h
      · exact absurd (eq_of_beq h) hki
      · exact h
    rw [hS.2 k o' hk hk' e hem hb, Bool.or_true]
end

end Go.Proofs.YtkamnnkdadfebaaDoor
