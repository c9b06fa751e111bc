/- GuardFull: a stack holds a thousand, and no more. No condition. -/
import Derived.Test.YtjmlbkbjmeeplabXGuardFullx
namespace Go.Proofs.Ytjmlbkbjmeeplab.Pure
open Go.RowKit Go.Proofs.Ytjmlbkbjmeeplab.XGuardFull Go.Proofs.YtjmlbkbjmeeplabW.PrintWords Go.Proofs.YtjmlbkbjmeeplabW.PrintLast

theorem wf64 {a : Int} (h : (Lit.int .i64 a).wf = true) : -9223372036854775808 ≤ a ∧ a ≤ 9223372036854775807 := by
  simp [Lit.wf, IntKind.min, IntKind.max, IntKind.bits, IntKind.signed] at h
  omega
theorem wfu64 {a : Int} (h : (Lit.int .u64 a).wf = true) : 0 ≤ a ∧ a ≤ 18446744073709551615 := by
  simp [Lit.wf, IntKind.min, IntKind.max, IntKind.bits, IntKind.signed] at h
  omega
theorem u64w (n : Int) : IntKind.u64.wrap n = n % 18446744073709551616 := by simp [IntKind.wrap, IntKind.bits, IntKind.signed]
theorem w64 {n : Int} (h : -9223372036854775808 ≤ n ∧ n ≤ 9223372036854775807) : wrap64 n = n := by unfold wrap64; omega
theorem tmodp {a b : Int} (h : 0 ≤ a) : Int.tmod a b = a % b := Int.tmod_eq_emod_of_nonneg h
theorem tdivp {a b : Int} (h : 0 ≤ a) : Int.tdiv a b = a / b := Int.tdiv_eq_ediv_of_nonneg h
theorem u64_wraps (n : Int) (h₀ : 0 ≤ n) (h₁ : n < 2 ^ 64) : IntKind.u64.wrap n = n := by rw [u64w]; omega
theorem u64_mask (i : Nat) (hi : i ≤ 64) (x : Int) (h₀ : 0 ≤ x) (h₁ : x < 2 ^ 64) : Go.bits .and .u64 x (2 ^ i - 1) = x % 2 ^ i :=
  bits_mask .u64 64 (by decide) u64_wraps i hi x h₀ h₁
theorem u64_and1 {x : Int} (h₀ : 0 ≤ x) (h₁ : x ≤ 18446744073709551615) : Go.bits .and .u64 x 1 = x % 2 := u64_mask 1 (by decide) x h₀ (by omega)
theorem u64_and3 {x : Int} (h₀ : 0 ≤ x) (h₁ : x ≤ 18446744073709551615) : Go.bits .and .u64 x 3 = x % 4 := u64_mask 2 (by decide) x h₀ (by omega)
theorem u64_or1 {x : Int} (h₀ : 0 ≤ x) (h₁ : x ≤ 18446744073709551615) (h : x % 2 = 0) : Go.bits .or .u64 x 1 = x + 1 :=
  bits_join .u64 64 (by decide) u64_wraps 1 x 1 h₀ h (by omega) (by decide) (by decide) (by decide)
theorem modw (a m : Int) (h : 0 < m) (hm : m ≤ 1000000) : wrap64 (Int.tmod (IntKind.u64.wrap a) m) = (a % 18446744073709551616) % m := by
  rw [u64w, tmodp (by omega), w64]
  have := Int.emod_nonneg (a % 18446744073709551616) (b := m) (by omega)
  have := Int.emod_lt_of_pos (a % 18446744073709551616) h
  omega
theorem ev_pos {α : Type} {c : Prop} [Decidable c] {a b : Nat → Option α} {r : α} (h : c) (k : Ev a r) : Ev (fun n => if c then a n else b n) r := by
  simp only [if_pos h]; exact k
theorem ev_neg {α : Type} {c : Prop} [Decidable c] {a b : Nat → Option α} {r : α} (h : ¬ c) (k : Ev b r) : Ev (fun n => if c then a n else b n) r := by
  simp only [if_neg h]; exact k
theorem ev_ite {α : Type} {c : Prop} [Decidable c] {a b : Nat → Option α} {r : α} (h1 : c → Ev a r) (h2 : ¬ c → Ev b r) : Ev (fun n => if c then a n else b n) r := by
  by_cases h : c
  · exact ev_pos h (h1 h)
  · exact ev_neg h (h2 h)
theorem ev_bindc {α β : Type} {o : Option α} {f : Nat → α → Option β} {a : α} {r : β} (h : o = some a) (k : Ev (fun n => f n a) r) : Ev (fun n => o.bind (f n)) r := by
  subst h; exact k
theorem ev_bind {α β : Type} {g : Nat → Option α} {f : Nat → α → Option β} {a : α} {r : β} (h : Ev g a) (k : Ev (fun n => f n a) r) : Ev (fun n => (g n).bind (f n)) r := Ev.bind h k
theorem ev_now {α : Type} {r s : α} (h : s = r) : Ev (fun _ => some s) r := by subst h; exact Ev.now _
theorem ev_some {α : Type} {o : Option α} {r : α} (h : o = some r) : Ev (fun _ => o) r := ⟨0, fun _ _ => h⟩
theorem ev_one {α : Type} {g : Nat → Option α} {r : α} (h : ∀ k, g (k + 1) = some r) : Ev g r := ⟨1, fun k hk => by obtain ⟨m, rfl⟩ : ∃ m, k = m + 1 := ⟨k - 1, by omega⟩; exact h m⟩
theorem ev_two {α : Type} {g : Nat → Option α} {r : α} (h : ∀ k, g (k + 2) = some r) : Ev g r := ⟨2, fun k hk => by obtain ⟨m, rfl⟩ : ∃ m, k = m + 2 := ⟨k - 2, by omega⟩; exact h m⟩
theorem awake3 : darninglaw3_awake.f = some true := by decide +kernel
theorem stepS_push (row s : List Int) (n : Int) : Guard.stepS row s 1 n = if s.length = 1000 then none else some (s ++ [n]) := by simp [Guard.stepS, Guard.pushS]
theorem run_le (row : List Int) : ∀ (l : List (Int × Int)) (s : List Int) (k : Nat), ∃ m : Nat, (Guard.runFrom row s k l).2.1 = (m : Int) ∧ k ≤ m ∧ m ≤ k + l.length ∧ ((Guard.runFrom row s k l).2.2 = true ↔ m = k + l.length) := by
  intro l
  induction l with
  | nil => intro s k; exact ⟨k, rfl, Nat.le_refl _, by simp, by simp [Guard.runFrom]⟩
  | cons p r ih =>
    intro s k
    simp only [Guard.runFrom]
    cases h : Guard.stepS row s p.1 p.2 with
    | none => exact ⟨k, rfl, Nat.le_refl _, by simp, by simp⟩
    | some s' =>
      obtain ⟨m, h1, h2, h3, h4⟩ := ih s' (k + 1)
      refine ⟨m, h1, by omega, by simp; omega, ?_⟩
      simp only [List.length_cons]
      rw [h4]; omega
theorem run_take (row : List Int) : ∀ (l : List (Int × Int)) (s : List Int) (k m : Nat), (Guard.runFrom row s k l).2.1 = (m : Int) → Guard.runFrom row s k (l.take (m - k)) = ((Guard.runFrom row s k l).1, (m : Int), true) := by
  intro l
  induction l with
  | nil => intro s k m h; simp [Guard.runFrom] at h ⊢; exact h
  | cons p r ih =>
    intro s k m h
    simp only [Guard.runFrom] at h ⊢
    cases hs : Guard.stepS row s p.1 p.2 with
    | none =>
      rw [hs] at h
      have : m = k := by simp at h; omega
      subst this
      simp [Guard.runFrom]
    | some s' =>
      rw [hs] at h
      simp only at h ⊢
      obtain ⟨m', h1, h2, _⟩ := run_le row r s' (k + 1)
      have hm : m' = m := by have := h1.symm.trans h; omega
      subst hm
      rw [show m' - k = (m' - (k + 1)) + 1 from by omega, List.take_succ_cons, Guard.runFrom, hs]
      exact ih s' (k + 1) m' h
theorem run_app (row : List Int) (more : List (Int × Int)) : ∀ (l : List (Int × Int)) (s : List Int) (k : Nat), (Guard.runFrom row s k l).2.2 = false → Guard.runFrom row s k (l ++ more) = Guard.runFrom row s k l := by
  intro l
  induction l with
  | nil => intro s k h; simp [Guard.runFrom] at h
  | cons p r ih =>
    intro s k h
    simp only [Guard.runFrom, List.cons_append] at h ⊢
    cases hs : Guard.stepS row s p.1 p.2 with
    | none => rfl
    | some s' => rw [hs] at h; exact ih s' (k + 1) h
theorem run_on (row : List Int) (more : List (Int × Int)) : ∀ (l : List (Int × Int)) (s : List Int) (k : Nat), (Guard.runFrom row s k l).2.2 = true → Guard.runFrom row s k (l ++ more) = Guard.runFrom row (Guard.runFrom row s k l).1 (k + l.length) more := by
  intro l
  induction l with
  | nil => intro s k h; simp [Guard.runFrom]
  | cons p r ih =>
    intro s k h
    simp only [Guard.runFrom, List.cons_append] at h ⊢
    cases hs : Guard.stepS row s p.1 p.2 with
    | none => rw [hs] at h; simp at h
    | some s' =>
      rw [hs] at h
      rw [show k + (p :: r).length = (k + 1) + r.length from by simp; omega]
      exact ih s' (k + 1) h
theorem run_fill (row : List Int) (v : Int) : ∀ (d i : Nat), i ≤ 1000 → Guard.runFrom row (List.replicate i v) i (List.replicate d (1, v)) = if i + d ≤ 1000 then (List.replicate (i + d) v, ((i + d : Nat) : Int), true) else (List.replicate 1000 v, 1000, false) := by
  intro d
  induction d with
  | zero => intro i hi; rw [if_pos (by omega)]; rfl
  | succ d ih =>
    intro i hi
    rw [List.replicate_succ, Guard.runFrom]
    simp only [stepS_push, List.length_replicate]
    by_cases h : i = 1000
    · subst h
      rw [if_pos rfl, if_neg (by omega)]; rfl
    · rw [if_neg h]
      simp only
      rw [show List.replicate i v ++ [v] = List.replicate (i + 1) v from List.replicate_succ'.symm, ih (i + 1) (by omega)]
      rw [show i + 1 + d = i + (d + 1) from by omega]

theorem rd_rep {m : Nat} {v : Int} (h : 0 < m) : rd (List.replicate m v) 0 = v := by
  obtain ⟨m, rfl⟩ : ∃ q, m = q + 1 := ⟨m - 1, by omega⟩
  simp [rd, List.replicate_succ]
theorem len_rep {m : Nat} {v : Int} (h : 0 < m) : (0 : Int) < ((List.replicate m v).length : Int) := by rw [List.length_replicate]; omega

theorem GuardFull : darninglaw3_GuardFull.Pure := by
  intro a v w0 w1
  refine Ev.rounds ?_
  unfold darninglaw3_GuardFull.f
  rw [modw a 1100 (by omega) (by omega)]
  obtain ⟨n, hn⟩ : ∃ n : Nat, a % 18446744073709551616 % 1100 = (n : Int) := ⟨(a % 18446744073709551616 % 1100).toNat, by have := Int.emod_nonneg (a % 18446744073709551616) (b := 1100) (by omega); omega⟩
  have hn2 : n < 1100 := by have := Int.emod_lt_of_pos (a % 18446744073709551616) (b := 1100) (by omega); omega
  rw [hn]
  refine ev_pos (by omega) (ev_pos (by omega) (ev_bindc rfl ?_))
  simp only [Int.toNat_natCast, List.length_replicate]
  have hl : ∀ d (j : Nat) (x5 : List S50), j + d = n → x5.length = n → (∀ i, i < j → x5[i]? = some (⟨1, v⟩ : S50)) → Ev (fun k => darninglaw3_GuardFull.l0 k (n : Int) v x5 (n : Int) (j : Int)) true := by
    intro d
    induction d with
    | zero =>
      intro j x5 hj hx hi
      refine Ev.step (fun k => by rw [darninglaw3_GuardFull.l0]) ?_
      refine ev_neg (by omega) ?_
      have hx5 : x5 = List.replicate n (⟨1, v⟩ : S50) := by
        apply List.ext_getElem?
        intro i
        rcases Nat.lt_or_ge i n with h | h
        · rw [hi i (by omega), List.getElem?_replicate, if_pos h]
        · rw [List.getElem?_eq_none (by omega), List.getElem?_eq_none (by simp; exact h)]
      have hr : guard_Run.f [] x5 = some (if n ≤ 1000 then (List.replicate n v, (n : Int), true) else (List.replicate 1000 v, 1000, false)) := by
        have := run_fill [] v n 0 (by omega)
        rw [Nat.zero_add] at this
        unfold guard_Run.f
        rw [hx5, List.map_replicate]
        exact congrArg some this
      refine ev_bindc hr ?_
      by_cases h : n ≤ 1000
      · rw [if_pos h]
        refine ev_pos (by simp; omega) (ev_pos (by simp only [mn]; rw [if_neg (by omega)]) (ev_pos (by simp only [mn, List.length_replicate]; rw [if_neg (by omega)]) ?_))
        by_cases h0 : (n : Int) = 0
        · exact ev_pos h0 (ev_bindc awake3 (Ev.now _))
        · refine ev_neg h0 (ev_pos (by simp; omega) (ev_pos ?_ (ev_bindc awake3 (Ev.now _))))
          obtain ⟨m, rfl⟩ : ∃ m, n = m + 1 := ⟨n - 1, by omega⟩
          simp [rd, List.replicate_succ]
      · rw [if_neg h]
        refine ev_pos (by simp; omega) (ev_pos (by simp only [mn]; rw [if_pos (by omega)]) (ev_pos (by simp only [mn, List.length_replicate]; rw [if_pos (by omega)]; rfl) ?_))
        exact ev_neg (by omega) (ev_pos (len_rep (by decide)) (ev_pos (rd_rep (by decide)) (ev_bindc awake3 (Ev.now _))))
    | succ d ih =>
      intro j x5 hj hx hi
      refine Ev.step (fun k => by rw [darninglaw3_GuardFull.l0]) ?_
      refine ev_pos (by omega) (ev_pos (by omega) (ev_pos (by omega) ?_))
      rw [w64 (by omega)]
      refine ih (j + 1) _ (by omega) (by simp; exact hx) (fun i hij => ?_)
      rw [Int.toNat_natCast, List.getElem?_set]
      by_cases e : j = i
      · rw [if_pos e, if_pos (by omega)]
      · rw [if_neg e]; exact hi i (by omega)
  exact hl n 0 _ (by omega) (by simp) (fun i h => by omega)

end Go.Proofs.Ytjmlbkbjmeeplab.Pure
