/- BlockUnlike: headers of unlike sizes or uses are unlike words, none is nought, and a size that may not be has the word nought. No condition. -/
import Derived.Test.YtjmlbkbjmeeplaaPBlockUnlikex1
namespace Go.Proofs.Ytjmlbkbjmeeplaa.Pure
open Go.RowKit Go.Proofs.Ytjmlbkbjmeeplaa.PBlockUnlike Go.Proofs.YtjmlbkbjmeeplaaW.PrintWords Go.Proofs.YtjmlbkbjmeeplaaW.PrintLast

theorem wf64 {a : Int} (h : (Lit.int .i64 a).wf = true) : -9223372036854775808 ≤ a ∧ a ≤ 9223372036854775807 := by
  simp [Lit.wf, IntKind.min, IntKind.max, IntKind.bits, IntKind.signed] at h
  omega
theorem wfu64 {a : Int} (h : (Lit.int .u64 a).wf = true) : 0 ≤ a ∧ a ≤ 18446744073709551615 := by
  simp [Lit.wf, IntKind.min, IntKind.max, IntKind.bits, IntKind.signed] at h
  omega
theorem u64w (n : Int) : IntKind.u64.wrap n = n % 18446744073709551616 := by simp [IntKind.wrap, IntKind.bits, IntKind.signed]
theorem w64 {n : Int} (h : -9223372036854775808 ≤ n ∧ n ≤ 9223372036854775807) : wrap64 n = n := by unfold wrap64; omega
theorem tmodp {a b : Int} (h : 0 ≤ a) : Int.tmod a b = a % b := Int.tmod_eq_emod_of_nonneg h
theorem tdivp {a b : Int} (h : 0 ≤ a) : Int.tdiv a b = a / b := Int.tdiv_eq_ediv_of_nonneg h
theorem u64_wraps (n : Int) (h₀ : 0 ≤ n) (h₁ : n < 2 ^ 64) : IntKind.u64.wrap n = n := by rw [u64w]; omega
theorem u64_mask (i : Nat) (hi : i ≤ 64) (x : Int) (h₀ : 0 ≤ x) (h₁ : x < 2 ^ 64) : Go.bits .and .u64 x (2 ^ i - 1) = x % 2 ^ i :=
  bits_mask .u64 64 (by decide) u64_wraps i hi x h₀ h₁
theorem u64_and1 {x : Int} (h₀ : 0 ≤ x) (h₁ : x ≤ 18446744073709551615) : Go.bits .and .u64 x 1 = x % 2 := u64_mask 1 (by decide) x h₀ (by omega)
theorem u64_and3 {x : Int} (h₀ : 0 ≤ x) (h₁ : x ≤ 18446744073709551615) : Go.bits .and .u64 x 3 = x % 4 := u64_mask 2 (by decide) x h₀ (by omega)
theorem u64_or1 {x : Int} (h₀ : 0 ≤ x) (h₁ : x ≤ 18446744073709551615) (h : x % 2 = 0) : Go.bits .or .u64 x 1 = x + 1 :=
  bits_join .u64 64 (by decide) u64_wraps 1 x 1 h₀ h (by omega) (by decide) (by decide) (by decide)
theorem modw (a m : Int) (h : 0 < m) (hm : m ≤ 1000000) : wrap64 (Int.tmod (IntKind.u64.wrap a) m) = (a % 18446744073709551616) % m := by
  rw [u64w, tmodp (by omega), w64]
  have := Int.emod_nonneg (a % 18446744073709551616) (b := m) (by omega)
  have := Int.emod_lt_of_pos (a % 18446744073709551616) h
  omega
theorem parse_eq {w : Int} (h : 0 ≤ w ∧ w ≤ 18446744073709551615) :
    block_Parse.f w = if 2 ≤ w / 2 ∧ w / 2 ≤ 512 then some (w / 2, w % 2 == 1, true) else some (0, false, false) := by
  unfold block_Parse.f block_May.f
  rw [u64_and1 h.1 h.2, w64 (by omega)]
  by_cases h1 : w / 2 > 512
  · rw [if_pos h1, if_neg (by omega)]
  · rw [if_neg h1]
    by_cases h2 : w / 2 ≥ 2
    · rw [if_pos h2, if_pos (by omega)]
      simp only [Option.bind_some]
      rw [if_pos (by simp; omega)]
    · rw [if_neg h2, if_neg (by omega)]; rfl
theorem word_eq (n : Int) (u : Bool) : block_Word.f n u = some (if 2 ≤ n ∧ n ≤ 512 then 2 * n + (if u then 1 else 0) else 0) := by
  unfold block_Word.f block_May.f
  by_cases h : 2 ≤ n ∧ n ≤ 512
  · rw [if_pos (by omega), if_pos h]
    simp only [Option.bind_some]
    rw [if_pos (by simp; omega)]
    have e : IntKind.u64.wrap (IntKind.u64.wrap n * 2) = 2 * n := by rw [u64w, u64w]; omega
    rw [e]
    cases u
    · simp
    · simp only [if_true]; rw [u64_or1 (by omega) (by omega) (by omega)]
  · rw [if_neg h]
    by_cases h2 : n ≥ 2
    · rw [if_pos h2]; simp only [Option.bind_some]; rw [if_neg (by simp; omega)]
    · rw [if_neg h2]; rfl
theorem may_eq (n : Int) : block_May.f n = some (decide (2 ≤ n ∧ n ≤ 512)) := by
  unfold block_May.f
  by_cases h2 : n ≥ 2
  · rw [if_pos h2]; simp; intro; exact h2
  · rw [if_neg h2]; simp; omega
theorem awake_eq : darninglaw13_awake.f = some true := by
  unfold darninglaw13_awake.f
  rw [parse_eq (by omega), parse_eq (by omega)]
  simp [word_eq, may_eq]
theorem BlockUnlike : darninglaw13_BlockUnlike.Pure := by
  intro a b u v h0 h1
  unfold darninglaw13_BlockUnlike.f
  rw [modw a 511 (by omega) (by omega), modw b 511 (by omega) (by omega), w64 (by omega), w64 (by omega)]
  generalize hn : 2 + a % 18446744073709551616 % 511 = n
  generalize hm : 2 + b % 18446744073709551616 % 511 = m
  have hn2 : 2 ≤ n ∧ n ≤ 512 := by omega
  have hm2 : 2 ≤ m ∧ m ≤ 512 := by omega
  rw [word_eq n, if_pos hn2, word_eq m, if_pos hm2, awake_eq, word_eq, word_eq]
  simp only [Option.bind_some]
  rw [if_neg (by omega : ¬ (2 ≤ (1 : Int) ∧ (1 : Int) ≤ 512)), if_neg (by omega : ¬ (2 ≤ (513 : Int) ∧ (513 : Int) ≤ 512))]
  have hx : ∀ c : Bool, (if c = true then (1 : Int) else 0) = 0 ∧ c = false ∨ (if c = true then (1 : Int) else 0) = 1 ∧ c = true := by intro c; cases c <;> simp
  have hu := hx u
  have hv := hx v
  generalize (if u = true then (1 : Int) else 0) = x at hu ⊢
  generalize (if v = true then (1 : Int) else 0) = y at hv ⊢
  have hz : ¬ 2 * n + x = 0 := by omega
  by_cases h : n = m
  · rw [if_pos h]
    have e : ((2 * n + x == 2 * m + y) == (u == v)) = true := by
      rcases hu with ⟨hu, rfl⟩ | ⟨hu, rfl⟩ <;> rcases hv with ⟨hv, rfl⟩ | ⟨hv, rfl⟩ <;> simp <;> omega
    rw [if_pos e, if_neg hz]
    rfl
  · rw [if_neg h]
    have e : ((2 * n + x == 2 * m + y) == false) = true := by
      simp; omega
    rw [if_pos e, if_neg hz]
    rfl

end Go.Proofs.Ytjmlbkbjmeeplaa.Pure
