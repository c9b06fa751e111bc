/- FitNeeds: more bytes need no fewer words, they fit in, and what is left of a block is a block, or nothing. No condition. -/
import Derived.Test.YtjmlbkbjmeeplabXFitNeedsx
namespace Go.Proofs.Ytjmlbkbjmeeplab.Pure
open Go.RowKit Go.Proofs.Ytjmlbkbjmeeplab.XFitNeeds Go.Proofs.YtjmlbkbjmeeplabW.PrintWords Go.Proofs.YtjmlbkbjmeeplabW.PrintLast

theorem wf64 {a : Int} (h : (Lit.int .i64 a).wf = true) : -9223372036854775808 ≤ a ∧ a ≤ 9223372036854775807 := by
  simp [Lit.wf, IntKind.min, IntKind.max, IntKind.bits, IntKind.signed] at h
  omega
theorem wfu64 {a : Int} (h : (Lit.int .u64 a).wf = true) : 0 ≤ a ∧ a ≤ 18446744073709551615 := by
  simp [Lit.wf, IntKind.min, IntKind.max, IntKind.bits, IntKind.signed] at h
  omega
theorem u64w (n : Int) : IntKind.u64.wrap n = n % 18446744073709551616 := by simp [IntKind.wrap, IntKind.bits, IntKind.signed]
theorem w64 {n : Int} (h : -9223372036854775808 ≤ n ∧ n ≤ 9223372036854775807) : wrap64 n = n := by unfold wrap64; omega
theorem tmodp {a b : Int} (h : 0 ≤ a) : Int.tmod a b = a % b := Int.tmod_eq_emod_of_nonneg h
theorem tdivp {a b : Int} (h : 0 ≤ a) : Int.tdiv a b = a / b := Int.tdiv_eq_ediv_of_nonneg h
theorem u64_wraps (n : Int) (h₀ : 0 ≤ n) (h₁ : n < 2 ^ 64) : IntKind.u64.wrap n = n := by rw [u64w]; omega
theorem u64_mask (i : Nat) (hi : i ≤ 64) (x : Int) (h₀ : 0 ≤ x) (h₁ : x < 2 ^ 64) : Go.bits .and .u64 x (2 ^ i - 1) = x % 2 ^ i :=
  bits_mask .u64 64 (by decide) u64_wraps i hi x h₀ h₁
theorem u64_and1 {x : Int} (h₀ : 0 ≤ x) (h₁ : x ≤ 18446744073709551615) : Go.bits .and .u64 x 1 = x % 2 := u64_mask 1 (by decide) x h₀ (by omega)
theorem u64_and3 {x : Int} (h₀ : 0 ≤ x) (h₁ : x ≤ 18446744073709551615) : Go.bits .and .u64 x 3 = x % 4 := u64_mask 2 (by decide) x h₀ (by omega)
theorem u64_or1 {x : Int} (h₀ : 0 ≤ x) (h₁ : x ≤ 18446744073709551615) (h : x % 2 = 0) : Go.bits .or .u64 x 1 = x + 1 :=
  bits_join .u64 64 (by decide) u64_wraps 1 x 1 h₀ h (by omega) (by decide) (by decide) (by decide)
theorem modw (a m : Int) (h : 0 < m) (hm : m ≤ 1000000) : wrap64 (Int.tmod (IntKind.u64.wrap a) m) = (a % 18446744073709551616) % m := by
  rw [u64w, tmodp (by omega), w64]
  have := Int.emod_nonneg (a % 18446744073709551616) (b := m) (by omega)
  have := Int.emod_lt_of_pos (a % 18446744073709551616) h
  omega
theorem ev_pos {α : Type} {c : Prop} [Decidable c] {a b : Nat → Option α} {r : α} (h : c) (k : Ev a r) : Ev (fun n => if c then a n else b n) r := by
  simp only [if_pos h]; exact k
theorem ev_neg {α : Type} {c : Prop} [Decidable c] {a b : Nat → Option α} {r : α} (h : ¬ c) (k : Ev b r) : Ev (fun n => if c then a n else b n) r := by
  simp only [if_neg h]; exact k
theorem ev_ite {α : Type} {c : Prop} [Decidable c] {a b : Nat → Option α} {r : α} (h1 : c → Ev a r) (h2 : ¬ c → Ev b r) : Ev (fun n => if c then a n else b n) r := by
  by_cases h : c
  · exact ev_pos h (h1 h)
  · exact ev_neg h (h2 h)
theorem ev_bindc {α β : Type} {o : Option α} {f : Nat → α → Option β} {a : α} {r : β} (h : o = some a) (k : Ev (fun n => f n a) r) : Ev (fun n => o.bind (f n)) r := by
  subst h; exact k
theorem ev_bind {α β : Type} {g : Nat → Option α} {f : Nat → α → Option β} {a : α} {r : β} (h : Ev g a) (k : Ev (fun n => f n a) r) : Ev (fun n => (g n).bind (f n)) r := Ev.bind h k
theorem ev_now {α : Type} {r s : α} (h : s = r) : Ev (fun _ => some s) r := by subst h; exact Ev.now _
theorem ev_some {α : Type} {o : Option α} {r : α} (h : o = some r) : Ev (fun _ => o) r := ⟨0, fun _ _ => h⟩
theorem ev_one {α : Type} {g : Nat → Option α} {r : α} (h : ∀ k, g (k + 1) = some r) : Ev g r := ⟨1, fun k hk => by obtain ⟨m, rfl⟩ : ∃ m, k = m + 1 := ⟨k - 1, by omega⟩; exact h m⟩
theorem ev_two {α : Type} {g : Nat → Option α} {r : α} (h : ∀ k, g (k + 2) = some r) : Ev g r := ⟨2, fun k hk => by obtain ⟨m, rfl⟩ : ∃ m, k = m + 2 := ⟨k - 2, by omega⟩; exact h m⟩
theorem need_eq {n : Int} (h : 1 ≤ n ∧ n ≤ 448) : fit_Need.f n = some ((n + 7) / 8 + 1) := by
  unfold fit_Need.f
  rw [if_neg (by omega), if_neg (by omega), w64 (n := n + 7) (by omega), tdivp (by omega), w64 (n := (n + 7) / 8) (by omega), w64 (by omega)]
theorem need_no {n : Int} (h : ¬ (1 ≤ n ∧ n ≤ 448)) : fit_Need.f n = some 0 := by
  unfold fit_Need.f
  by_cases c : n < 1
  · rw [if_pos c]
  · rw [if_neg c, if_pos (by omega)]
theorem takes_ev {s n : Int} (hs : 2 ≤ s ∧ s ≤ 1000) (hn : 2 ≤ n ∧ n ≤ 1000) : Ev (fun k => fit_Takes.f k s n) (if n > s then 0 else if s - n < 2 then s else n) := by
  unfold fit_Takes.f
  refine ev_neg (by omega) ?_
  by_cases c : n > s
  · rw [decide_eq_true c, if_pos c]
    exact Ev.step (fun k => by rw [fit_Takes.j0]) (ev_pos rfl (Ev.now _))
  · rw [decide_eq_false c, if_neg c]
    refine Ev.step (fun k => by rw [fit_Takes.j0]) (ev_neg (by decide) ?_)
    rw [w64 (n := s - n) (by omega)]
    refine ev_ite (fun c2 => ?_) (fun c2 => ?_)
    · rw [if_pos c2]; exact Ev.now _
    · rw [if_neg c2]; exact Ev.now _
theorem awake_ev : Ev (fun k => darninglaw15_awake.f k) true := Ev.of (fun k => darninglaw15_awake.mono k) (k := 20) (by decide +kernel)
theorem FitNeeds : darninglaw15_FitNeeds.Pure := by
  intro a b h0 h1
  apply Ev.rounds
  unfold darninglaw15_FitNeeds.f
  rw [modw a 448 (by omega) (by omega), modw b 511 (by omega) (by omega), w64 (n := 1 + _) (by omega), w64 (n := 2 + _) (by omega)]
  generalize hn : 1 + a % 18446744073709551616 % 448 = n
  generalize hs : 2 + b % 18446744073709551616 % 511 = s
  have hn2 : 1 ≤ n ∧ n ≤ 448 := by omega
  have hs2 : 2 ≤ s ∧ s ≤ 512 := by omega
  refine ev_bindc (need_eq hn2) ?_
  generalize hm : (n + 7) / 8 + 1 = m
  have hm2 : 2 ≤ m ∧ m ≤ 57 := by omega
  rw [w64 (n := m - 1) (by omega), w64 (n := (m - 1) * 8) (by omega), w64 (n := m - 2) (by omega), w64 (n := (m - 2) * 8) (by omega)]
  refine ev_neg (by omega) (ev_neg (by omega) (ev_neg (by omega) ?_))
  have rest : Ev (fun k => darninglaw15_FitNeeds.j0 k s m false) true := by
    refine Ev.step (fun k => by rw [darninglaw15_FitNeeds.j0]) (ev_neg (by decide) ?_)
    refine ev_bind (takes_ev (by omega) (by omega)) ?_
    rw [w64 (n := m + 1) (by omega)]
    have fin : Ev (fun k => (fit_Need.f 0).bind fun t148 => if t148 = 0 then (fit_Need.f 449).bind fun t149 => if t149 = 0 then (darninglaw15_awake.f k).bind fun t150 => some t150 else some false else some false) true :=
      ev_bindc (need_no (by omega)) (ev_pos rfl (ev_bindc (need_no (by omega)) (ev_pos rfl (ev_bind awake_ev (Ev.now _)))))
    by_cases c : m > s
    · rw [if_pos c]
      exact ev_pos c (ev_pos rfl (ev_bind awake_ev (Ev.now _)))
    · rw [if_neg c]
      refine ev_neg (by omega) ?_
      by_cases c2 : s - m < 2
      · rw [if_pos c2]
        exact ev_pos (by omega) (ev_pos rfl (ev_pos (by omega) fin))
      · rw [if_neg c2, w64 (n := s - m) (by omega)]
        refine ev_pos (by omega) ?_
        refine ev_ite (fun _ => ev_pos (by omega) fin) (fun _ => ev_pos (by omega) (ev_pos (by omega) fin))
  refine ev_ite (fun c => ?_) (fun _ => rest)
  rw [w64 (n := n + 1) (by omega)]
  refine ev_bindc (need_eq (by omega)) ?_
  rw [decide_eq_false (by omega)]
  exact rest

end Go.Proofs.Ytjmlbkbjmeeplab.Pure
