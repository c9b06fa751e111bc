/- GuardStays: what was done ahead of a step that fails stays done: the steps ahead of it alone come to the same stack; behind it nothing is done. No condition. -/
import Derived.Test.YtjmlbkbjmeeplabXGuardStaysx
import Derived.Test.YtjmlbkbjmeeplabWSized
namespace Go.Proofs.Ytjmlbkbjmeeplab.Pure
open Go.RowKit Go.Proofs.Ytjmlbkbjmeeplab.XGuardStays Go.Proofs.YtjmlbkbjmeeplabW.PrintWords Go.Proofs.YtjmlbkbjmeeplabW.PrintLast

theorem wf64 {a : Int} (h : (Lit.int .i64 a).wf = true) : -9223372036854775808 ≤ a ∧ a ≤ 9223372036854775807 := by
  simp [Lit.wf, IntKind.min, IntKind.max, IntKind.bits, IntKind.signed] at h
  omega
theorem wfu64 {a : Int} (h : (Lit.int .u64 a).wf = true) : 0 ≤ a ∧ a ≤ 18446744073709551615 := by
  simp [Lit.wf, IntKind.min, IntKind.max, IntKind.bits, IntKind.signed] at h
  omega
theorem u64w (n : Int) : IntKind.u64.wrap n = n % 18446744073709551616 := by simp [IntKind.wrap, IntKind.bits, IntKind.signed]
theorem w64 {n : Int} (h : -9223372036854775808 ≤ n ∧ n ≤ 9223372036854775807) : wrap64 n = n := by unfold wrap64; omega
theorem tmodp {a b : Int} (h : 0 ≤ a) : Int.tmod a b = a % b := Int.tmod_eq_emod_of_nonneg h
theorem tdivp {a b : Int} (h : 0 ≤ a) : Int.tdiv a b = a / b := Int.tdiv_eq_ediv_of_nonneg h
theorem u64_wraps (n : Int) (h₀ : 0 ≤ n) (h₁ : n < 2 ^ 64) : IntKind.u64.wrap n = n := by rw [u64w]; omega
theorem u64_mask (i : Nat) (hi : i ≤ 64) (x : Int) (h₀ : 0 ≤ x) (h₁ : x < 2 ^ 64) : Go.bits .and .u64 x (2 ^ i - 1) = x % 2 ^ i :=
  bits_mask .u64 64 (by decide) u64_wraps i hi x h₀ h₁
theorem u64_and1 {x : Int} (h₀ : 0 ≤ x) (h₁ : x ≤ 18446744073709551615) : Go.bits .and .u64 x 1 = x % 2 := u64_mask 1 (by decide) x h₀ (by omega)
theorem u64_and3 {x : Int} (h₀ : 0 ≤ x) (h₁ : x ≤ 18446744073709551615) : Go.bits .and .u64 x 3 = x % 4 := u64_mask 2 (by decide) x h₀ (by omega)
theorem u64_or1 {x : Int} (h₀ : 0 ≤ x) (h₁ : x ≤ 18446744073709551615) (h : x % 2 = 0) : Go.bits .or .u64 x 1 = x + 1 :=
  bits_join .u64 64 (by decide) u64_wraps 1 x 1 h₀ h (by omega) (by decide) (by decide) (by decide)
theorem modw (a m : Int) (h : 0 < m) (hm : m ≤ 1000000) : wrap64 (Int.tmod (IntKind.u64.wrap a) m) = (a % 18446744073709551616) % m := by
  rw [u64w, tmodp (by omega), w64]
  have := Int.emod_nonneg (a % 18446744073709551616) (b := m) (by omega)
  have := Int.emod_lt_of_pos (a % 18446744073709551616) h
  omega
theorem ev_pos {α : Type} {c : Prop} [Decidable c] {a b : Nat → Option α} {r : α} (h : c) (k : Ev a r) : Ev (fun n => if c then a n else b n) r := by
  simp only [if_pos h]; exact k
theorem ev_neg {α : Type} {c : Prop} [Decidable c] {a b : Nat → Option α} {r : α} (h : ¬ c) (k : Ev b r) : Ev (fun n => if c then a n else b n) r := by
  simp only [if_neg h]; exact k
theorem ev_ite {α : Type} {c : Prop} [Decidable c] {a b : Nat → Option α} {r : α} (h1 : c → Ev a r) (h2 : ¬ c → Ev b r) : Ev (fun n => if c then a n else b n) r := by
  by_cases h : c
  · exact ev_pos h (h1 h)
  · exact ev_neg h (h2 h)
theorem ev_bindc {α β : Type} {o : Option α} {f : Nat → α → Option β} {a : α} {r : β} (h : o = some a) (k : Ev (fun n => f n a) r) : Ev (fun n => o.bind (f n)) r := by
  subst h; exact k
theorem ev_bind {α β : Type} {g : Nat → Option α} {f : Nat → α → Option β} {a : α} {r : β} (h : Ev g a) (k : Ev (fun n => f n a) r) : Ev (fun n => (g n).bind (f n)) r := Ev.bind h k
theorem ev_now {α : Type} {r s : α} (h : s = r) : Ev (fun _ => some s) r := by subst h; exact Ev.now _
theorem ev_some {α : Type} {o : Option α} {r : α} (h : o = some r) : Ev (fun _ => o) r := ⟨0, fun _ _ => h⟩
theorem ev_one {α : Type} {g : Nat → Option α} {r : α} (h : ∀ k, g (k + 1) = some r) : Ev g r := ⟨1, fun k hk => by obtain ⟨m, rfl⟩ : ∃ m, k = m + 1 := ⟨k - 1, by omega⟩; exact h m⟩
theorem ev_two {α : Type} {g : Nat → Option α} {r : α} (h : ∀ k, g (k + 2) = some r) : Ev g r := ⟨2, fun k hk => by obtain ⟨m, rfl⟩ : ∃ m, k = m + 2 := ⟨k - 2, by omega⟩; exact h m⟩
theorem awake3 : darninglaw3_awake.f = some true := by decide +kernel
theorem stepS_push (row s : List Int) (n : Int) : Guard.stepS row s 1 n = if s.length = 1000 then none else some (s ++ [n]) := by simp [Guard.stepS, Guard.pushS]
theorem run_le (row : List Int) : ∀ (l : List (Int × Int)) (s : List Int) (k : Nat), ∃ m : Nat, (Guard.runFrom row s k l).2.1 = (m : Int) ∧ k ≤ m ∧ m ≤ k + l.length ∧ ((Guard.runFrom row s k l).2.2 = true ↔ m = k + l.length) := by
  intro l
  induction l with
  | nil => intro s k; exact ⟨k, rfl, Nat.le_refl _, by simp, by simp [Guard.runFrom]⟩
  | cons p r ih =>
    intro s k
    simp only [Guard.runFrom]
    cases h : Guard.stepS row s p.1 p.2 with
    | none => exact ⟨k, rfl, Nat.le_refl _, by simp, by simp⟩
    | some s' =>
      obtain ⟨m, h1, h2, h3, h4⟩ := ih s' (k + 1)
      refine ⟨m, h1, by omega, by simp; omega, ?_⟩
      simp only [List.length_cons]
      rw [h4]; omega
theorem run_take (row : List Int) : ∀ (l : List (Int × Int)) (s : List Int) (k m : Nat), (Guard.runFrom row s k l).2.1 = (m : Int) → Guard.runFrom row s k (l.take (m - k)) = ((Guard.runFrom row s k l).1, (m : Int), true) := by
  intro l
  induction l with
  | nil => intro s k m h; simp [Guard.runFrom] at h ⊢; exact h
  | cons p r ih =>
    intro s k m h
    simp only [Guard.runFrom] at h ⊢
    cases hs : Guard.stepS row s p.1 p.2 with
    | none =>
      rw [hs] at h
      have : m = k := by simp at h; omega
      subst this
      simp [Guard.runFrom]
    | some s' =>
      rw [hs] at h
      simp only at h ⊢
      obtain ⟨m', h1, h2, _⟩ := run_le row r s' (k + 1)
      have hm : m' = m := by have := h1.symm.trans h; omega
      subst hm
      rw [show m' - k = (m' - (k + 1)) + 1 from by omega, List.take_succ_cons, Guard.runFrom, hs]
      exact ih s' (k + 1) m' h
theorem run_app (row : List Int) (more : List (Int × Int)) : ∀ (l : List (Int × Int)) (s : List Int) (k : Nat), (Guard.runFrom row s k l).2.2 = false → Guard.runFrom row s k (l ++ more) = Guard.runFrom row s k l := by
  intro l
  induction l with
  | nil => intro s k h; simp [Guard.runFrom] at h
  | cons p r ih =>
    intro s k h
    simp only [Guard.runFrom, List.cons_append] at h ⊢
    cases hs : Guard.stepS row s p.1 p.2 with
    | none => rfl
    | some s' => rw [hs] at h; exact ih s' (k + 1) h
theorem run_on (row : List Int) (more : List (Int × Int)) : ∀ (l : List (Int × Int)) (s : List Int) (k : Nat), (Guard.runFrom row s k l).2.2 = true → Guard.runFrom row s k (l ++ more) = Guard.runFrom row (Guard.runFrom row s k l).1 (k + l.length) more := by
  intro l
  induction l with
  | nil => intro s k h; simp [Guard.runFrom]
  | cons p r ih =>
    intro s k h
    simp only [Guard.runFrom, List.cons_append] at h ⊢
    cases hs : Guard.stepS row s p.1 p.2 with
    | none => rw [hs] at h; simp at h
    | some s' =>
      rw [hs] at h
      rw [show k + (p :: r).length = (k + 1) + r.length from by simp; omega]
      exact ih s' (k + 1) h
theorem ints_same (xs : List Int) (h : xs.length ≤ 1000000) : Ev (fun k => darningref1_Ints.f k xs xs) true := by
  have hl : ∀ d (i : Nat), i + d = xs.length → Ev (fun k => darningref1_Ints.l0 k xs xs (xs.length : Int) (i : Int)) true := by
    intro d
    induction d with
    | zero =>
      intro i hi
      refine Ev.step (fun k => by rw [darningref1_Ints.l0]) ?_
      exact ev_neg (by omega) (Ev.now _)
    | succ d ih =>
      intro i hi
      refine Ev.step (fun k => by rw [darningref1_Ints.l0]) ?_
      refine ev_pos (by omega) (ev_pos (by omega) (ev_pos (by omega) (ev_pos (by omega) (ev_pos rfl ?_))))
      rw [w64 (by omega)]
      exact ih (i + 1) (by omega)
  unfold darningref1_Ints.f
  exact ev_pos rfl (hl xs.length 0 (by simp))
theorem runFrom_len (row : List Int) : ∀ (l : List (Int × Int)) (s : List Int) (k : Nat), s.length ≤ 1000 → (Guard.runFrom row s k l).1.length ≤ 1000 := by
  intro l
  induction l with
  | nil => intro s k h; exact h
  | cons p r ih =>
    intro s k h
    simp only [Guard.runFrom]
    cases hs : Guard.stepS row s p.1 p.2 with
    | none => exact h
    | some s' => exact ih s' (k + 1) (Guard.stepS_len hs h)

theorem GuardStays : darninglaw3_GuardStays.Pure := by
  intro row l more hm hy hw hm1 hy1 hw1 hm2 hy2 hw2
  refine Ev.rounds ?_
  unfold darninglaw3_GuardStays.f
  have hA : ∀ (x : Bool), x = true → Ev (fun k => darninglaw3_GuardStays.j0 k row l more x) true := by
    rintro x rfl
    refine Ev.step (fun k => by rw [darninglaw3_GuardStays.j0]) ?_
    exact ev_pos rfl (ev_bindc awake3 (Ev.now _))
  by_cases h1 : (row.length : Int) > 100
  · exact ev_pos h1 (hA _ rfl)
  refine ev_neg h1 ?_
  rw [w64 (by omega)]
  by_cases h2 : (l.length : Int) + more.length > 500
  · exact hA _ (decide_eq_true h2)
  rw [decide_eq_false h2]
  refine Ev.step (fun k => by rw [darninglaw3_GuardStays.j0]) ?_
  refine ev_neg (by decide) ?_
  have hf : ∀ l', guard_Run.f row l' = some (Guard.runFrom row [] 0 (l'.map fun x => (x.f0, x.f1))) := fun _ => rfl
  obtain ⟨ks, hks⟩ : ∃ ks, l.map (fun x => (x.f0, x.f1)) = ks := ⟨_, rfl⟩
  have hkl : ks.length = l.length := by rw [← hks]; simp
  obtain ⟨m, g1, g2, g3, g4⟩ := run_le row ks [] 0
  have gt := run_take row ks [] 0 m g1
  have ga := run_app row (more.map fun x => (x.f0, x.f1)) ks [] 0
  have gl := runFrom_len row ks [] 0 (by simp)
  obtain ⟨⟨s, n, ok⟩, hr⟩ : ∃ r, Guard.runFrom row [] 0 ks = r := ⟨_, rfl⟩
  rw [hr] at g1 g4 gt ga gl
  simp only at g1 g4 gt ga gl
  subst g1
  refine ev_bindc (by rw [hf, hks, hr]) ?_
  refine ev_neg (by simp only; omega) (ev_neg (by simp only; omega) ?_)
  have e0 : (ok != ((m : Int) == (l.length : Int))) = false := by
    have : ((m : Int) == (l.length : Int)) = ok := by
      rw [Bool.eq_iff_iff, g4, beq_iff_eq]; omega
    rw [this]; simp
  simp only [e0]
  refine Ev.step (fun k => by rw [darninglaw3_GuardStays.j1]) ?_
  refine ev_neg (by decide) (ev_pos (by omega) (ev_pos (by omega) ?_))
  refine ev_bindc (a := (s, (m : Int), true)) (by rw [hf, List.map_take, hks]; simpa using gt) ?_
  refine ev_pos rfl (ev_pos rfl ?_)
  refine ev_bind (ints_same s (by omega)) ?_
  refine Ev.step (fun k => by rw [darninglaw3_GuardStays.j2]) ?_
  refine ev_neg (by decide) ?_
  cases ok with
  | true => exact ev_pos rfl (ev_bindc awake3 (Ev.now _))
  | false =>
    refine ev_neg (by decide) ?_
    refine ev_bindc rfl (ev_pos (by simp; omega) (ev_bindc rfl (ev_pos (by simp; omega) ?_)))
    refine ev_bindc (a := (s, (m : Int), false)) (by rw [hf, List.map_append, List.nil_append, hks, ga rfl]) ?_
    refine ev_pos rfl (ev_neg (by simp) ?_)
    exact ev_bind (ints_same s (by omega)) (ev_pos rfl (ev_bindc awake3 (Ev.now _)))

end Go.Proofs.Ytjmlbkbjmeeplab.Pure

namespace Go.Proofs.Ytjmlbkbjmeeplab.PrintWords
open Go.ChangeShapes Go.WideShapes
/-- The printed words' lemma, under the name by which the printed row finds it. -/
theorem sized_ints {H : Type} {enc : TypeId × Value → H} {P : Program} {W : World} {base : Nat} {spare : Nat → Bool} {held : Bool} {t e : TypeId} {k : IntKind} {a : Option Addr} {len cap : Nat} {d : DataW H} {ps : List MemPlace} {ts : List TypeId} {ds : List (DataW H)} {j : Nat}
    (hsz : (DataW.weightsEach P ts ds).all (· ≤ reachBytes) = true) (ht : ts[j]? = some t) (hd : ds[j]? = some d) (hu : P.underlying t = some (.slice e)) (he : P.underlying e = some (.int k)) (hc : P.cellsOf e = 1) {B : Nat} (hB : P.bytesOf e = B)
    (h : DataW.Trod enc P W base spare held t (.slice a len cap) d ps) : len * B ≤ 140737488351232 :=
  Go.Proofs.YtjmlbkbjmeeplabW.PrintWords.sized_ints hsz ht hd hu he hc hB h
end Go.Proofs.Ytjmlbkbjmeeplab.PrintWords
