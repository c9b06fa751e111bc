/- GuardForms: any row, any places, any steps: what is told of each is what the document says. No condition. -/
import Derived.Test.YtjmlbkbjmeeplabXGuardFormsx
import Derived.Test.YtjmlbkbjmeeplabWSized
namespace Go.Proofs.Ytjmlbkbjmeeplab.Pure
open Go.RowKit Go.Proofs.Ytjmlbkbjmeeplab.XGuardForms Go.Proofs.YtjmlbkbjmeeplabW.PrintWords Go.Proofs.YtjmlbkbjmeeplabW.PrintLast

theorem wf64 {a : Int} (h : (Lit.int .i64 a).wf = true) : -9223372036854775808 ≤ a ∧ a ≤ 9223372036854775807 := by
  simp [Lit.wf, IntKind.min, IntKind.max, IntKind.bits, IntKind.signed] at h
  omega
theorem wfu64 {a : Int} (h : (Lit.int .u64 a).wf = true) : 0 ≤ a ∧ a ≤ 18446744073709551615 := by
  simp [Lit.wf, IntKind.min, IntKind.max, IntKind.bits, IntKind.signed] at h
  omega
theorem u64w (n : Int) : IntKind.u64.wrap n = n % 18446744073709551616 := by simp [IntKind.wrap, IntKind.bits, IntKind.signed]
theorem w64 {n : Int} (h : -9223372036854775808 ≤ n ∧ n ≤ 9223372036854775807) : wrap64 n = n := by unfold wrap64; omega
theorem tmodp {a b : Int} (h : 0 ≤ a) : Int.tmod a b = a % b := Int.tmod_eq_emod_of_nonneg h
theorem tdivp {a b : Int} (h : 0 ≤ a) : Int.tdiv a b = a / b := Int.tdiv_eq_ediv_of_nonneg h
theorem u64_wraps (n : Int) (h₀ : 0 ≤ n) (h₁ : n < 2 ^ 64) : IntKind.u64.wrap n = n := by rw [u64w]; omega
theorem u64_mask (i : Nat) (hi : i ≤ 64) (x : Int) (h₀ : 0 ≤ x) (h₁ : x < 2 ^ 64) : Go.bits .and .u64 x (2 ^ i - 1) = x % 2 ^ i :=
  bits_mask .u64 64 (by decide) u64_wraps i hi x h₀ h₁
theorem u64_and1 {x : Int} (h₀ : 0 ≤ x) (h₁ : x ≤ 18446744073709551615) : Go.bits .and .u64 x 1 = x % 2 := u64_mask 1 (by decide) x h₀ (by omega)
theorem u64_and3 {x : Int} (h₀ : 0 ≤ x) (h₁ : x ≤ 18446744073709551615) : Go.bits .and .u64 x 3 = x % 4 := u64_mask 2 (by decide) x h₀ (by omega)
theorem u64_or1 {x : Int} (h₀ : 0 ≤ x) (h₁ : x ≤ 18446744073709551615) (h : x % 2 = 0) : Go.bits .or .u64 x 1 = x + 1 :=
  bits_join .u64 64 (by decide) u64_wraps 1 x 1 h₀ h (by omega) (by decide) (by decide) (by decide)
theorem modw (a m : Int) (h : 0 < m) (hm : m ≤ 1000000) : wrap64 (Int.tmod (IntKind.u64.wrap a) m) = (a % 18446744073709551616) % m := by
  rw [u64w, tmodp (by omega), w64]
  have := Int.emod_nonneg (a % 18446744073709551616) (b := m) (by omega)
  have := Int.emod_lt_of_pos (a % 18446744073709551616) h
  omega
theorem ev_pos {α : Type} {c : Prop} [Decidable c] {a b : Nat → Option α} {r : α} (h : c) (k : Ev a r) : Ev (fun n => if c then a n else b n) r := by
  simp only [if_pos h]; exact k
theorem ev_neg {α : Type} {c : Prop} [Decidable c] {a b : Nat → Option α} {r : α} (h : ¬ c) (k : Ev b r) : Ev (fun n => if c then a n else b n) r := by
  simp only [if_neg h]; exact k
theorem ev_ite {α : Type} {c : Prop} [Decidable c] {a b : Nat → Option α} {r : α} (h1 : c → Ev a r) (h2 : ¬ c → Ev b r) : Ev (fun n => if c then a n else b n) r := by
  by_cases h : c
  · exact ev_pos h (h1 h)
  · exact ev_neg h (h2 h)
theorem ev_bindc {α β : Type} {o : Option α} {f : Nat → α → Option β} {a : α} {r : β} (h : o = some a) (k : Ev (fun n => f n a) r) : Ev (fun n => o.bind (f n)) r := by
  subst h; exact k
theorem ev_bind {α β : Type} {g : Nat → Option α} {f : Nat → α → Option β} {a : α} {r : β} (h : Ev g a) (k : Ev (fun n => f n a) r) : Ev (fun n => (g n).bind (f n)) r := Ev.bind h k
theorem ev_now {α : Type} {r s : α} (h : s = r) : Ev (fun _ => some s) r := by subst h; exact Ev.now _
theorem ev_some {α : Type} {o : Option α} {r : α} (h : o = some r) : Ev (fun _ => o) r := ⟨0, fun _ _ => h⟩
theorem ev_one {α : Type} {g : Nat → Option α} {r : α} (h : ∀ k, g (k + 1) = some r) : Ev g r := ⟨1, fun k hk => by obtain ⟨m, rfl⟩ : ∃ m, k = m + 1 := ⟨k - 1, by omega⟩; exact h m⟩
theorem ev_two {α : Type} {g : Nat → Option α} {r : α} (h : ∀ k, g (k + 2) = some r) : Ev g r := ⟨2, fun k hk => by obtain ⟨m, rfl⟩ : ∃ m, k = m + 2 := ⟨k - 2, by omega⟩; exact h m⟩
theorem awake3 : darninglaw3_awake.f = some true := by decide +kernel
theorem stepS_push (row s : List Int) (n : Int) : Guard.stepS row s 1 n = if s.length = 1000 then none else some (s ++ [n]) := by simp [Guard.stepS, Guard.pushS]
theorem run_le (row : List Int) : ∀ (l : List (Int × Int)) (s : List Int) (k : Nat), ∃ m : Nat, (Guard.runFrom row s k l).2.1 = (m : Int) ∧ k ≤ m ∧ m ≤ k + l.length ∧ ((Guard.runFrom row s k l).2.2 = true ↔ m = k + l.length) := by
  intro l
  induction l with
  | nil => intro s k; exact ⟨k, rfl, Nat.le_refl _, by simp, by simp [Guard.runFrom]⟩
  | cons p r ih =>
    intro s k
    simp only [Guard.runFrom]
    cases h : Guard.stepS row s p.1 p.2 with
    | none => exact ⟨k, rfl, Nat.le_refl _, by simp, by simp⟩
    | some s' =>
      obtain ⟨m, h1, h2, h3, h4⟩ := ih s' (k + 1)
      refine ⟨m, h1, by omega, by simp; omega, ?_⟩
      simp only [List.length_cons]
      rw [h4]; omega
theorem run_take (row : List Int) : ∀ (l : List (Int × Int)) (s : List Int) (k m : Nat), (Guard.runFrom row s k l).2.1 = (m : Int) → Guard.runFrom row s k (l.take (m - k)) = ((Guard.runFrom row s k l).1, (m : Int), true) := by
  intro l
  induction l with
  | nil => intro s k m h; simp [Guard.runFrom] at h ⊢; exact h
  | cons p r ih =>
    intro s k m h
    simp only [Guard.runFrom] at h ⊢
    cases hs : Guard.stepS row s p.1 p.2 with
    | none =>
      rw [hs] at h
      have : m = k := by simp at h; omega
      subst this
      simp [Guard.runFrom]
    | some s' =>
      rw [hs] at h
      simp only at h ⊢
      obtain ⟨m', h1, h2, _⟩ := run_le row r s' (k + 1)
      have hm : m' = m := by have := h1.symm.trans h; omega
      subst hm
      rw [show m' - k = (m' - (k + 1)) + 1 from by omega, List.take_succ_cons, Guard.runFrom, hs]
      exact ih s' (k + 1) m' h
theorem run_app (row : List Int) (more : List (Int × Int)) : ∀ (l : List (Int × Int)) (s : List Int) (k : Nat), (Guard.runFrom row s k l).2.2 = false → Guard.runFrom row s k (l ++ more) = Guard.runFrom row s k l := by
  intro l
  induction l with
  | nil => intro s k h; simp [Guard.runFrom] at h
  | cons p r ih =>
    intro s k h
    simp only [Guard.runFrom, List.cons_append] at h ⊢
    cases hs : Guard.stepS row s p.1 p.2 with
    | none => rfl
    | some s' => rw [hs] at h; exact ih s' (k + 1) h
theorem run_on (row : List Int) (more : List (Int × Int)) : ∀ (l : List (Int × Int)) (s : List Int) (k : Nat), (Guard.runFrom row s k l).2.2 = true → Guard.runFrom row s k (l ++ more) = Guard.runFrom row (Guard.runFrom row s k l).1 (k + l.length) more := by
  intro l
  induction l with
  | nil => intro s k h; simp [Guard.runFrom]
  | cons p r ih =>
    intro s k h
    simp only [Guard.runFrom, List.cons_append] at h ⊢
    cases hs : Guard.stepS row s p.1 p.2 with
    | none => rw [hs] at h; simp at h
    | some s' =>
      rw [hs] at h
      rw [show k + (p :: r).length = (k + 1) + r.length from by simp; omega]
      exact ih s' (k + 1) h
theorem snoc_cases (s : List Int) : s = [] ∨ (∃ b, s = [b]) ∨ ∃ r a b, s = r ++ [a, b] := by
  rcases List.eq_nil_or_concat s with h | ⟨t, b, h⟩
  · exact Or.inl h
  · rcases List.eq_nil_or_concat t with h2 | ⟨r, a, h2⟩
    · exact Or.inr (Or.inl ⟨b, by rw [h, h2]; rfl⟩)
    · exact Or.inr (Or.inr ⟨r, a, b, by rw [h, h2]; simp⟩)
theorem rd_two (r : List Int) (a b : Int) : rd (r ++ [a, b]) (r.length : Int) = a ∧ rd (r ++ [a, b]) ((r.length : Int) + 1) = b := by
  constructor
  · simp [rd]
  · unfold rd
    rw [show ((r.length : Int) + 1).toNat = r.length + 1 from by omega]
    simp
theorem take_two (r : List Int) (a b : Int) : (r ++ [a, b]).take r.length = r ∧ (r ++ [a, b]).take (r.length + 1) = r ++ [a] := by
  constructor
  · simp
  · rw [List.take_append, List.take_of_length_le (by omega)]; simp
theorem pop_two (r : List Int) (a b : Int) : Guard.popS (r ++ [a, b]) = some (r ++ [a], b) := by
  have := Guard.popS_snoc (r ++ [a]) b
  simpa using this
theorem ref_run (row : List Int) (x1 l : List S50) (hl : l.length ≤ 1000000) : ∀ (d i : Nat) (s : List Int), i + d = l.length → s.length ≤ 1000 → x1.length = l.length →
    Ev (fun k => darningref1_Run.l0 k row x1 s l (l.length : Int) (i : Int)) (Guard.runFrom row s i ((l.drop i).map fun x => (x.f0, x.f1))) := by
  intro d
  induction d with
  | zero =>
    intro i s hi hs hx
    refine Ev.step (fun k => by rw [darningref1_Run.l0]) ?_
    refine ev_neg (by omega) ?_
    rw [List.drop_of_length_le (by omega)]
    exact ev_now (by simp [Guard.runFrom]; omega)
  | succ d ih =>
    intro i s hi hs hx
    obtain ⟨p, hp⟩ : ∃ p, l[i]? = some p := ⟨_, List.getElem?_eq_getElem (by omega)⟩
    have hrd : rd_T50 l (i : Int) = p := by
      unfold rd_T50; rw [Int.toNat_natCast, List.getD_eq_getElem?_getD, hp]; rfl
    have hdrop : l.drop i = p :: l.drop (i + 1) := by
      rw [List.drop_eq_getElem_cons (by omega)]
      congr 1
      have := hp
      rw [List.getElem?_eq_getElem (by omega)] at this
      exact Option.some.inj this
    rw [hdrop, List.map_cons, Guard.runFrom]
    obtain ⟨k0, n0⟩ := p
    refine Ev.step (fun k => by rw [darningref1_Run.l0]) ?_
    refine ev_pos (by omega) (ev_pos (by omega) (ev_pos (by omega) (ev_pos (by simp; omega) (ev_bindc rfl ?_))))
    rw [List.nil_append]
    simp only [hrd]
    rw [w64 (show -9223372036854775808 ≤ (i : Int) + 1 ∧ (i : Int) + 1 ≤ 9223372036854775807 by omega)]
    have go : ∀ s', s'.length ≤ 1000 → Ev (fun k => darningref1_Run.l0 k row x1 s' l (l.length : Int) ((i : Int) + 1)) (Guard.runFrom row s' (i + 1) ((l.drop (i + 1)).map fun x => (x.f0, x.f1))) := fun s' h' => ih (i + 1) s' (by omega) h' hx
    refine ev_ite (fun h1 => ?_) (fun h1 => ?_)
    · subst h1
      refine ev_pos (by omega) ?_
      rw [stepS_push]
      by_cases h : s.length = 1000
      · rw [if_pos h]; exact ev_neg (by omega) (ev_now rfl)
      · rw [if_neg h]; exact ev_pos (by omega) (go _ (by simp; omega))
    refine ev_ite (fun h2 => ?_) (fun h2 => ?_)
    · subst h2
      rcases snoc_cases s with rfl | ⟨b, rfl⟩ | ⟨r, a, b, rfl⟩
      · refine ev_neg (by simp) (ev_neg (by simp) (ev_now ?_)); rfl
      · refine ev_neg (by simp) (ev_neg (by simp) (ev_now ?_)); rfl
      · have hlen : (r ++ [a, b]).length = r.length + 2 := by simp
        rw [hlen] at hs ⊢
        have e1 : wrap64 (((r.length + 2 : Nat) : Int) - 1) = (r.length : Int) + 1 := by rw [w64 (by omega)]; omega
        have e2 : wrap64 (((r.length + 2 : Nat) : Int) - 2) = (r.length : Int) := by rw [w64 (by omega)]; omega
        rw [e1, e2]
        refine ev_pos (by omega) (ev_pos (by omega) (ev_pos (by omega) (ev_bindc rfl (ev_pos (by omega) (ev_pos (by omega) (ev_pos (by omega) (ev_pos (by simp; omega) (ev_pos (by omega) ?_))))))))
        rw [Int.toNat_natCast, (take_two r a b).1, (rd_two r a b).1, (rd_two r a b).2]
        have hst : Guard.stepS row (r ++ [a, b]) 2 n0 = some (r ++ [wrap64 (a + b)]) := by
          simp [Guard.stepS, pop_two, Guard.popS_snoc, Guard.pushS]; omega
        rw [hst]
        exact go _ (by simp; omega)
    refine ev_ite (fun h3 => ?_) (fun h3 => ?_)
    · subst h3
      rcases snoc_cases s with rfl | ⟨b, rfl⟩ | ⟨r, a, b, rfl⟩
      · refine ev_neg (by simp) ?_
        refine Ev.step (fun k => by rw [darningref1_Run.j1]) (ev_neg (by decide) (ev_now ?_)); rfl
      · refine ev_neg (by simp) ?_
        refine Ev.step (fun k => by rw [darningref1_Run.j1]) (ev_neg (by decide) (ev_now ?_)); rfl
      · have hlen : (r ++ [a, b]).length = r.length + 2 := by simp
        rw [hlen] at hs ⊢
        have e1 : wrap64 (((r.length + 2 : Nat) : Int) - 1) = (r.length : Int) + 1 := by rw [w64 (by omega)]; omega
        have e2 : wrap64 (((r.length + 2 : Nat) : Int) - 2) = (r.length : Int) := by rw [w64 (by omega)]; omega
        rw [e1]
        refine ev_pos (by omega) (ev_pos (by omega) (ev_pos (by omega) ?_))
        rw [(rd_two r a b).2]
        refine Ev.step (fun k => by rw [darningref1_Run.j1]) ?_
        by_cases hb : b = 0
        · subst hb
          have hst : Guard.stepS row (r ++ [a, 0]) 3 n0 = none := by simp [Guard.stepS, pop_two, Guard.popS_snoc]
          rw [hst]
          exact ev_neg (by simp) (ev_now rfl)
        · refine ev_pos (by simpa using hb) ?_
          rw [e1, e2, hlen]
          refine ev_pos (by omega) (ev_pos (by omega) (ev_bindc rfl (ev_pos (by omega) (ev_pos (by omega) (ev_pos (by omega) ?_)))))
          rw [Int.toNat_natCast, (take_two r a b).1, (rd_two r a b).1, (rd_two r a b).2]
          refine ev_neg hb (ev_pos (by omega) ?_)
          have hst : Guard.stepS row (r ++ [a, b]) 3 n0 = some (r ++ [wrap64 (Int.tdiv a b)]) := by
            simp [Guard.stepS, pop_two, Guard.popS_snoc, Guard.pushS, hb]; omega
          rw [hst, w64 (show -9223372036854775808 ≤ (i : Int) + 1 ∧ (i : Int) + 1 ≤ 9223372036854775807 by omega)]
          exact go _ (by simp; omega)
    refine ev_ite (fun h4 => ?_) (fun h4 => ?_)
    · subst h4
      rcases Guard.nil_or_snoc s with rfl | ⟨t, v, rfl⟩
      · refine ev_neg (by simp) ?_
        refine Ev.step (fun k => by rw [darningref1_Run.j2]) (ev_neg (by decide) (ev_now ?_)); rfl
      · have hlen : (t ++ [v]).length = t.length + 1 := by simp
        rw [hlen] at hs ⊢
        have e1 : wrap64 (((t.length + 1 : Nat) : Int) - 1) = (t.length : Int) := by rw [w64 (by omega)]; omega
        have hv : rd (t ++ [v]) (t.length : Int) = v := by simp [rd]
        rw [e1, hv]
        refine ev_pos (by omega) (ev_pos (by omega) (ev_pos (by omega) ?_))
        have hno : ¬ (0 ≤ v ∧ v < (row.length : Int)) → Guard.stepS row (t ++ [v]) 4 n0 = none := fun h => by
          simp only [Guard.stepS, Guard.popS_snoc]; simp [h]
        by_cases hv0 : v ≥ 0
        · refine ev_pos hv0 ?_
          refine Ev.step (fun k => by rw [darningref1_Run.j2]) ?_
          by_cases hv1 : v < (row.length : Int)
          · refine ev_pos (decide_eq_true hv1) ?_
            rw [e1, hv]
            refine ev_pos (by omega) (ev_pos (by rw [hlen]; omega) (ev_pos hv0 (ev_pos hv1 (ev_pos (by rw [hlen]; omega) ?_))))
            have hst : Guard.stepS row (t ++ [v]) 4 n0 = some (t ++ [rd row v]) := by
              simp only [Guard.stepS, Guard.popS_snoc]; simp [hv0, hv1, Guard.pushS]; omega
            rw [hst, w64 (show -9223372036854775808 ≤ (i : Int) + 1 ∧ (i : Int) + 1 ≤ 9223372036854775807 by omega), Int.toNat_natCast]
            have hset : (t ++ [v]).set t.length (rd row v) = t ++ [rd row v] := by simp
            rw [hset]
            exact go _ (by simp; omega)
          · rw [hno (by omega)]
            exact ev_neg (by simpa using hv1) (ev_now rfl)
        · refine ev_neg hv0 ?_
          refine Ev.step (fun k => by rw [darningref1_Run.j2]) ?_
          rw [hno (by omega)]
          exact ev_neg (by decide) (ev_now rfl)
    refine ev_ite (fun h5 => ?_) (fun h5 => ?_)
    · subst h5
      rcases Guard.nil_or_snoc s with rfl | ⟨t, v, rfl⟩
      · refine ev_neg (by simp) (ev_neg (by simp) (ev_now ?_)); rfl
      · have hlen : (t ++ [v]).length = t.length + 1 := by simp
        rw [hlen] at hs ⊢
        have e1 : wrap64 (((t.length + 1 : Nat) : Int) - 1) = (t.length : Int) := by rw [w64 (by omega)]; omega
        rw [e1]
        refine ev_pos (by omega) (ev_pos (by omega) (ev_pos (by omega) (ev_pos (by omega) ?_)))
        have hst : Guard.stepS row (t ++ [v]) 5 n0 = some t := by
          simp only [Guard.stepS, Guard.popS_snoc]; simp
        rw [hst, Int.toNat_natCast, show (t ++ [v]).take t.length = t from by simp]
        exact go _ (by omega)
    · have hst : Guard.stepS row s k0 n0 = none := by simp [Guard.stepS, h1, h2, h3, h4, h5]
      rw [hst]
      exact ev_now rfl
theorem ints_same (xs : List Int) (h : xs.length ≤ 1000000) : Ev (fun k => darningref1_Ints.f k xs xs) true := by
  have hl : ∀ d (i : Nat), i + d = xs.length → Ev (fun k => darningref1_Ints.l0 k xs xs (xs.length : Int) (i : Int)) true := by
    intro d
    induction d with
    | zero =>
      intro i hi
      refine Ev.step (fun k => by rw [darningref1_Ints.l0]) ?_
      exact ev_neg (by omega) (Ev.now _)
    | succ d ih =>
      intro i hi
      refine Ev.step (fun k => by rw [darningref1_Ints.l0]) ?_
      refine ev_pos (by omega) (ev_pos (by omega) (ev_pos (by omega) (ev_pos (by omega) (ev_pos rfl ?_))))
      rw [w64 (by omega)]
      exact ih (i + 1) (by omega)
  unfold darningref1_Ints.f
  exact ev_pos rfl (hl xs.length 0 (by simp))
theorem runFrom_len (row : List Int) : ∀ (l : List (Int × Int)) (s : List Int) (k : Nat), s.length ≤ 1000 → (Guard.runFrom row s k l).1.length ≤ 1000 := by
  intro l
  induction l with
  | nil => intro s k h; exact h
  | cons p r ih =>
    intro s k h
    simp only [Guard.runFrom]
    cases hs : Guard.stepS row s p.1 p.2 with
    | none => exact h
    | some s' => exact ih s' (k + 1) (Guard.stepS_len hs h)

theorem GuardForms : darninglaw3_GuardForms.Pure := by
  intro row i j a b l hm hy hw wi wj wa wb hm5 hy5 hw5
  refine Ev.rounds ?_
  unfold darninglaw3_GuardForms.f
  have hA : ∀ (x : Bool), x = true → Ev (fun k => darninglaw3_GuardForms.j0 k row i j a b l x) true := by
    rintro x rfl
    refine Ev.step (fun k => by rw [darninglaw3_GuardForms.j0]) ?_
    exact ev_pos rfl (ev_bindc awake3 (Ev.now _))
  by_cases h1 : (row.length : Int) > 200
  · exact ev_pos h1 (hA _ rfl)
  refine ev_neg h1 ?_
  by_cases h2 : (l.length : Int) > 1500
  · exact hA _ (decide_eq_true h2)
  rw [decide_eq_false h2]
  have h5 : Ev (fun k => darninglaw3_GuardForms.j5 k row l false) true := by
    refine Ev.step (fun k => by rw [darninglaw3_GuardForms.j5]) ?_
    refine ev_neg (by decide) ?_
    refine ev_bindc rfl ?_
    have hr := ref_run row l l (by omega) l.length 0 [] (by omega) (by simp) rfl
    rw [List.drop_zero] at hr
    have hgl := runFrom_len row (l.map fun x => (x.f0, x.f1)) [] 0 (by simp)
    refine ev_bind (show Ev (fun k => darningref1_Run.f k row l) _ from hr) ?_
    refine ev_bind (ints_same _ (by omega)) ?_
    exact ev_pos rfl (ev_pos rfl (ev_pos (by simp) (ev_bindc awake3 (Ev.now _))))
  have h4 : Ev (fun k => darninglaw3_GuardForms.j4 k row a b l false) true := by
    refine Ev.step (fun k => by rw [darninglaw3_GuardForms.j4]) ?_
    refine ev_neg (by decide) ?_
    refine ev_bindc (show guard_Div.f a b = some (if b = 0 then (0, false) else (wrap64 (a.tdiv b), true)) from rfl) ?_
    by_cases hb : b = 0
    · subst hb
      rw [if_pos rfl]
      exact ev_neg (by simp) (ev_pos rfl h5)
    · rw [if_neg hb]
      exact ev_neg (by simp [hb]) (ev_neg hb (ev_pos rfl h5))
  have h22 : Ev (fun k => darninglaw3_GuardForms.j2 k row i j a b l false) true := by
    refine Ev.step (fun k => by rw [darninglaw3_GuardForms.j2]) ?_
    refine ev_neg (by decide) ?_
    have hf : guard_Slice.f row i j = some (if 0 ≤ i ∧ i ≤ j ∧ j ≤ (row.length : Int) then ((row.take j.toNat).drop i.toNat, true) else ([], false)) := by
      unfold guard_Slice.f Guard.guard_Slice.f; rw [if_pos (by omega)]
    refine ev_bindc hf ?_
    have hyes : 0 ≤ i ∧ i ≤ j ∧ j ≤ (row.length : Int) → Ev (fun k => darninglaw3_GuardForms.j3 k row i j a b l ((row.take j.toNat).drop i.toNat) true true) true := fun h => by
      refine Ev.step (fun k => by rw [darninglaw3_GuardForms.j3]) ?_
      refine ev_neg (by decide) (ev_pos rfl (ev_pos h.1 (ev_pos h.2.1 (ev_pos h.2.2 ?_))))
      refine ev_bind (ints_same _ ?_) (ev_pos rfl h4)
      rw [List.length_drop, List.length_take]; omega
    have hno : Ev (fun k => darninglaw3_GuardForms.j3 k row i j a b l [] false false) true := by
      refine Ev.step (fun k => by rw [darninglaw3_GuardForms.j3]) ?_
      exact ev_neg (by decide) (ev_neg (by decide) (by simpa using h4))
    by_cases hi0 : i ≥ 0
    · refine ev_pos hi0 ?_
      by_cases hij : j ≥ i
      · refine ev_pos hij ?_
        by_cases hjr : j ≤ (row.length : Int)
        · rw [if_pos ⟨hi0, hij, hjr⟩, decide_eq_true hjr]; exact hyes ⟨hi0, hij, hjr⟩
        · rw [if_neg (by omega), decide_eq_false hjr]; exact hno
      · rw [if_neg (by omega)]; exact ev_neg hij hno
    · rw [if_neg (by omega)]; exact ev_neg hi0 hno
  refine Ev.step (fun k => by rw [darninglaw3_GuardForms.j0]) ?_
  refine ev_neg (by decide) ?_
  refine ev_bindc (show guard_Index.f row i = some (if 0 ≤ i ∧ i < (row.length : Int) then (rd row i, true) else (0, false)) from rfl) ?_
  have hyes : 0 ≤ i ∧ i < (row.length : Int) → Ev (fun k => darninglaw3_GuardForms.j1 k row i j a b l (rd row i) true true) true := fun h => by
    refine Ev.step (fun k => by rw [darninglaw3_GuardForms.j1]) ?_
    exact ev_neg (by decide) (ev_pos rfl (ev_pos h.1 (ev_pos h.2 (ev_pos rfl h22))))
  have hno : Ev (fun k => darninglaw3_GuardForms.j1 k row i j a b l 0 false false) true := by
    refine Ev.step (fun k => by rw [darninglaw3_GuardForms.j1]) ?_
    exact ev_neg (by decide) (ev_neg (by decide) (by simpa using h22))
  by_cases hi0 : i ≥ 0
  · refine ev_pos hi0 ?_
    by_cases hir : i < (row.length : Int)
    · rw [if_pos ⟨hi0, hir⟩, decide_eq_true hir]; exact hyes ⟨hi0, hir⟩
    · rw [if_neg (by omega), decide_eq_false hir]; exact hno
  · rw [if_neg (by omega)]; exact ev_neg hi0 hno

end Go.Proofs.Ytjmlbkbjmeeplab.Pure

namespace Go.Proofs.Ytjmlbkbjmeeplab.PrintWords
open Go.ChangeShapes Go.WideShapes
/-- The printed words' lemma, under the name by which the printed row finds it. -/
theorem sized_ints {H : Type} {enc : TypeId × Value → H} {P : Program} {W : World} {base : Nat} {spare : Nat → Bool} {held : Bool} {t e : TypeId} {k : IntKind} {a : Option Addr} {len cap : Nat} {d : DataW H} {ps : List MemPlace} {ts : List TypeId} {ds : List (DataW H)} {j : Nat}
    (hsz : (DataW.weightsEach P ts ds).all (· ≤ reachBytes) = true) (ht : ts[j]? = some t) (hd : ds[j]? = some d) (hu : P.underlying t = some (.slice e)) (he : P.underlying e = some (.int k)) (hc : P.cellsOf e = 1) {B : Nat} (hB : P.bytesOf e = B)
    (h : DataW.Trod enc P W base spare held t (.slice a len cap) d ps) : len * B ≤ 140737488351232 :=
  Go.Proofs.YtjmlbkbjmeeplabW.PrintWords.sized_ints hsz ht hd hu he hc hB h
end Go.Proofs.Ytjmlbkbjmeeplab.PrintWords
