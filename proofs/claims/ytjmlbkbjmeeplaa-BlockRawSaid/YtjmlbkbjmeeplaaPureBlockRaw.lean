/- BlockRaw: a word with bit 40 set is no header, nor is one below four. No condition. -/
import Derived.Test.YtjmlbkbjmeeplaaPBlockRawx1
namespace Go.Proofs.Ytjmlbkbjmeeplaa.Pure
open Go.RowKit Go.Proofs.Ytjmlbkbjmeeplaa.PBlockRaw Go.Proofs.YtjmlbkbjmeeplaaW.PrintWords Go.Proofs.YtjmlbkbjmeeplaaW.PrintLast

theorem wf64 {a : Int} (h : (Lit.int .i64 a).wf = true) : -9223372036854775808 ≤ a ∧ a ≤ 9223372036854775807 := by
  simp [Lit.wf, IntKind.min, IntKind.max, IntKind.bits, IntKind.signed] at h
  omega
theorem wfu64 {a : Int} (h : (Lit.int .u64 a).wf = true) : 0 ≤ a ∧ a ≤ 18446744073709551615 := by
  simp [Lit.wf, IntKind.min, IntKind.max, IntKind.bits, IntKind.signed] at h
  omega
theorem u64w (n : Int) : IntKind.u64.wrap n = n % 18446744073709551616 := by simp [IntKind.wrap, IntKind.bits, IntKind.signed]
theorem w64 {n : Int} (h : -9223372036854775808 ≤ n ∧ n ≤ 9223372036854775807) : wrap64 n = n := by unfold wrap64; omega
theorem tmodp {a b : Int} (h : 0 ≤ a) : Int.tmod a b = a % b := Int.tmod_eq_emod_of_nonneg h
theorem tdivp {a b : Int} (h : 0 ≤ a) : Int.tdiv a b = a / b := Int.tdiv_eq_ediv_of_nonneg h
theorem u64_wraps (n : Int) (h₀ : 0 ≤ n) (h₁ : n < 2 ^ 64) : IntKind.u64.wrap n = n := by rw [u64w]; omega
theorem u64_mask (i : Nat) (hi : i ≤ 64) (x : Int) (h₀ : 0 ≤ x) (h₁ : x < 2 ^ 64) : Go.bits .and .u64 x (2 ^ i - 1) = x % 2 ^ i :=
  bits_mask .u64 64 (by decide) u64_wraps i hi x h₀ h₁
theorem u64_and1 {x : Int} (h₀ : 0 ≤ x) (h₁ : x ≤ 18446744073709551615) : Go.bits .and .u64 x 1 = x % 2 := u64_mask 1 (by decide) x h₀ (by omega)
theorem u64_and3 {x : Int} (h₀ : 0 ≤ x) (h₁ : x ≤ 18446744073709551615) : Go.bits .and .u64 x 3 = x % 4 := u64_mask 2 (by decide) x h₀ (by omega)
theorem u64_or1 {x : Int} (h₀ : 0 ≤ x) (h₁ : x ≤ 18446744073709551615) (h : x % 2 = 0) : Go.bits .or .u64 x 1 = x + 1 :=
  bits_join .u64 64 (by decide) u64_wraps 1 x 1 h₀ h (by omega) (by decide) (by decide) (by decide)
theorem modw (a m : Int) (h : 0 < m) (hm : m ≤ 1000000) : wrap64 (Int.tmod (IntKind.u64.wrap a) m) = (a % 18446744073709551616) % m := by
  rw [u64w, tmodp (by omega), w64]
  have := Int.emod_nonneg (a % 18446744073709551616) (b := m) (by omega)
  have := Int.emod_lt_of_pos (a % 18446744073709551616) h
  omega
theorem parse_eq {w : Int} (h : 0 ≤ w ∧ w ≤ 18446744073709551615) :
    block_Parse.f w = if 2 ≤ w / 2 ∧ w / 2 ≤ 512 then some (w / 2, w % 2 == 1, true) else some (0, false, false) := by
  unfold block_Parse.f block_May.f
  rw [u64_and1 h.1 h.2, w64 (by omega)]
  by_cases h1 : w / 2 > 512
  · rw [if_pos h1, if_neg (by omega)]
  · rw [if_neg h1]
    by_cases h2 : w / 2 ≥ 2
    · rw [if_pos h2, if_pos (by omega)]
      simp only [Option.bind_some]
      rw [if_pos (by simp; omega)]
    · rw [if_neg h2, if_neg (by omega)]; rfl
theorem word_eq (n : Int) (u : Bool) : block_Word.f n u = some (if 2 ≤ n ∧ n ≤ 512 then 2 * n + (if u then 1 else 0) else 0) := by
  unfold block_Word.f block_May.f
  by_cases h : 2 ≤ n ∧ n ≤ 512
  · rw [if_pos (by omega), if_pos h]
    simp only [Option.bind_some]
    rw [if_pos (by simp; omega)]
    have e : IntKind.u64.wrap (IntKind.u64.wrap n * 2) = 2 * n := by rw [u64w, u64w]; omega
    rw [e]
    cases u
    · simp
    · simp only [if_true]; rw [u64_or1 (by omega) (by omega) (by omega)]
  · rw [if_neg h]
    by_cases h2 : n ≥ 2
    · rw [if_pos h2]; simp only [Option.bind_some]; rw [if_neg (by simp; omega)]
    · rw [if_neg h2]; rfl
theorem may_eq (n : Int) : block_May.f n = some (decide (2 ≤ n ∧ n ≤ 512)) := by
  unfold block_May.f
  by_cases h2 : n ≥ 2
  · rw [if_pos h2]; simp; intro; exact h2
  · rw [if_neg h2]; simp; omega
theorem awake_eq : darninglaw13_awake.f = some true := by
  unfold darninglaw13_awake.f
  rw [parse_eq (by omega), parse_eq (by omega)]
  simp [word_eq, may_eq]
theorem or40 {w : Int} (h : 0 ≤ w ∧ w ≤ 18446744073709551615) : 1099511627776 ≤ Go.bits .or .u64 w 1099511627776 ∧ Go.bits .or .u64 w 1099511627776 ≤ 18446744073709551615 := by
  obtain ⟨n, rfl⟩ := Int.eq_ofNat_of_zero_le h.1
  have hn : n < 2 ^ 64 := by omega
  have h2 := (bits_nat .u64 64 (by decide) u64_wraps n 1099511627776 hn (by decide)).2
  have e : ((1099511627776 : Nat) : Int) = 1099511627776 := rfl
  rw [e] at h2
  rw [h2]
  have h3 : (1099511627776 : Nat) ≤ n ||| 1099511627776 := Nat.right_le_or
  have h4 : n ||| 1099511627776 < 2 ^ 64 := Nat.or_lt_two_pow hn (by decide)
  omega
theorem BlockRaw : darninglaw13_BlockRaw.Pure := by
  intro w h2
  have hw := wfu64 h2
  have ho := or40 hw
  unfold darninglaw13_BlockRaw.f
  rw [u64_and3 hw.1 hw.2]
  generalize Go.bits .or .u64 w 1099511627776 = x at ho ⊢
  rw [parse_eq (by omega), if_neg (by omega), parse_eq (by omega), if_neg (by omega), awake_eq]
  simp

end Go.Proofs.Ytjmlbkbjmeeplaa.Pure
