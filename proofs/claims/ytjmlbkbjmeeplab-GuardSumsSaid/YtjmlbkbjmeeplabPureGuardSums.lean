/- GuardSums: numbers that are pushed and added are their sum; divided by nought it ends there. No condition. -/
import Derived.Test.YtjmlbkbjmeeplabXGuardSumsx
import Derived.Test.YtjmlbkbjmeeplabWSized
namespace Go.Proofs.Ytjmlbkbjmeeplab.Pure
open Go.RowKit Go.Proofs.Ytjmlbkbjmeeplab.XGuardSums Go.Proofs.YtjmlbkbjmeeplabW.PrintWords Go.Proofs.YtjmlbkbjmeeplabW.PrintLast

theorem wf64 {a : Int} (h : (Lit.int .i64 a).wf = true) : -9223372036854775808 ≤ a ∧ a ≤ 9223372036854775807 := by
  simp [Lit.wf, IntKind.min, IntKind.max, IntKind.bits, IntKind.signed] at h
  omega
theorem wfu64 {a : Int} (h : (Lit.int .u64 a).wf = true) : 0 ≤ a ∧ a ≤ 18446744073709551615 := by
  simp [Lit.wf, IntKind.min, IntKind.max, IntKind.bits, IntKind.signed] at h
  omega
theorem u64w (n : Int) : IntKind.u64.wrap n = n % 18446744073709551616 := by simp [IntKind.wrap, IntKind.bits, IntKind.signed]
theorem w64 {n : Int} (h : -9223372036854775808 ≤ n ∧ n ≤ 9223372036854775807) : wrap64 n = n := by unfold wrap64; omega
theorem tmodp {a b : Int} (h : 0 ≤ a) : Int.tmod a b = a % b := Int.tmod_eq_emod_of_nonneg h
theorem tdivp {a b : Int} (h : 0 ≤ a) : Int.tdiv a b = a / b := Int.tdiv_eq_ediv_of_nonneg h
theorem u64_wraps (n : Int) (h₀ : 0 ≤ n) (h₁ : n < 2 ^ 64) : IntKind.u64.wrap n = n := by rw [u64w]; omega
theorem u64_mask (i : Nat) (hi : i ≤ 64) (x : Int) (h₀ : 0 ≤ x) (h₁ : x < 2 ^ 64) : Go.bits .and .u64 x (2 ^ i - 1) = x % 2 ^ i :=
  bits_mask .u64 64 (by decide) u64_wraps i hi x h₀ h₁
theorem u64_and1 {x : Int} (h₀ : 0 ≤ x) (h₁ : x ≤ 18446744073709551615) : Go.bits .and .u64 x 1 = x % 2 := u64_mask 1 (by decide) x h₀ (by omega)
theorem u64_and3 {x : Int} (h₀ : 0 ≤ x) (h₁ : x ≤ 18446744073709551615) : Go.bits .and .u64 x 3 = x % 4 := u64_mask 2 (by decide) x h₀ (by omega)
theorem u64_or1 {x : Int} (h₀ : 0 ≤ x) (h₁ : x ≤ 18446744073709551615) (h : x % 2 = 0) : Go.bits .or .u64 x 1 = x + 1 :=
  bits_join .u64 64 (by decide) u64_wraps 1 x 1 h₀ h (by omega) (by decide) (by decide) (by decide)
theorem modw (a m : Int) (h : 0 < m) (hm : m ≤ 1000000) : wrap64 (Int.tmod (IntKind.u64.wrap a) m) = (a % 18446744073709551616) % m := by
  rw [u64w, tmodp (by omega), w64]
  have := Int.emod_nonneg (a % 18446744073709551616) (b := m) (by omega)
  have := Int.emod_lt_of_pos (a % 18446744073709551616) h
  omega
theorem ev_pos {α : Type} {c : Prop} [Decidable c] {a b : Nat → Option α} {r : α} (h : c) (k : Ev a r) : Ev (fun n => if c then a n else b n) r := by
  simp only [if_pos h]; exact k
theorem ev_neg {α : Type} {c : Prop} [Decidable c] {a b : Nat → Option α} {r : α} (h : ¬ c) (k : Ev b r) : Ev (fun n => if c then a n else b n) r := by
  simp only [if_neg h]; exact k
theorem ev_ite {α : Type} {c : Prop} [Decidable c] {a b : Nat → Option α} {r : α} (h1 : c → Ev a r) (h2 : ¬ c → Ev b r) : Ev (fun n => if c then a n else b n) r := by
  by_cases h : c
  · exact ev_pos h (h1 h)
  · exact ev_neg h (h2 h)
theorem ev_bindc {α β : Type} {o : Option α} {f : Nat → α → Option β} {a : α} {r : β} (h : o = some a) (k : Ev (fun n => f n a) r) : Ev (fun n => o.bind (f n)) r := by
  subst h; exact k
theorem ev_bind {α β : Type} {g : Nat → Option α} {f : Nat → α → Option β} {a : α} {r : β} (h : Ev g a) (k : Ev (fun n => f n a) r) : Ev (fun n => (g n).bind (f n)) r := Ev.bind h k
theorem ev_now {α : Type} {r s : α} (h : s = r) : Ev (fun _ => some s) r := by subst h; exact Ev.now _
theorem ev_some {α : Type} {o : Option α} {r : α} (h : o = some r) : Ev (fun _ => o) r := ⟨0, fun _ _ => h⟩
theorem ev_one {α : Type} {g : Nat → Option α} {r : α} (h : ∀ k, g (k + 1) = some r) : Ev g r := ⟨1, fun k hk => by obtain ⟨m, rfl⟩ : ∃ m, k = m + 1 := ⟨k - 1, by omega⟩; exact h m⟩
theorem ev_two {α : Type} {g : Nat → Option α} {r : α} (h : ∀ k, g (k + 2) = some r) : Ev g r := ⟨2, fun k hk => by obtain ⟨m, rfl⟩ : ∃ m, k = m + 2 := ⟨k - 2, by omega⟩; exact h m⟩
theorem awake3 : darninglaw3_awake.f = some true := by decide +kernel
theorem stepS_push (row s : List Int) (n : Int) : Guard.stepS row s 1 n = if s.length = 1000 then none else some (s ++ [n]) := by simp [Guard.stepS, Guard.pushS]
theorem run_le (row : List Int) : ∀ (l : List (Int × Int)) (s : List Int) (k : Nat), ∃ m : Nat, (Guard.runFrom row s k l).2.1 = (m : Int) ∧ k ≤ m ∧ m ≤ k + l.length ∧ ((Guard.runFrom row s k l).2.2 = true ↔ m = k + l.length) := by
  intro l
  induction l with
  | nil => intro s k; exact ⟨k, rfl, Nat.le_refl _, by simp, by simp [Guard.runFrom]⟩
  | cons p r ih =>
    intro s k
    simp only [Guard.runFrom]
    cases h : Guard.stepS row s p.1 p.2 with
    | none => exact ⟨k, rfl, Nat.le_refl _, by simp, by simp⟩
    | some s' =>
      obtain ⟨m, h1, h2, h3, h4⟩ := ih s' (k + 1)
      refine ⟨m, h1, by omega, by simp; omega, ?_⟩
      simp only [List.length_cons]
      rw [h4]; omega
theorem run_take (row : List Int) : ∀ (l : List (Int × Int)) (s : List Int) (k m : Nat), (Guard.runFrom row s k l).2.1 = (m : Int) → Guard.runFrom row s k (l.take (m - k)) = ((Guard.runFrom row s k l).1, (m : Int), true) := by
  intro l
  induction l with
  | nil => intro s k m h; simp [Guard.runFrom] at h ⊢; exact h
  | cons p r ih =>
    intro s k m h
    simp only [Guard.runFrom] at h ⊢
    cases hs : Guard.stepS row s p.1 p.2 with
    | none =>
      rw [hs] at h
      have : m = k := by simp at h; omega
      subst this
      simp [Guard.runFrom]
    | some s' =>
      rw [hs] at h
      simp only at h ⊢
      obtain ⟨m', h1, h2, _⟩ := run_le row r s' (k + 1)
      have hm : m' = m := by have := h1.symm.trans h; omega
      subst hm
      rw [show m' - k = (m' - (k + 1)) + 1 from by omega, List.take_succ_cons, Guard.runFrom, hs]
      exact ih s' (k + 1) m' h
theorem run_app (row : List Int) (more : List (Int × Int)) : ∀ (l : List (Int × Int)) (s : List Int) (k : Nat), (Guard.runFrom row s k l).2.2 = false → Guard.runFrom row s k (l ++ more) = Guard.runFrom row s k l := by
  intro l
  induction l with
  | nil => intro s k h; simp [Guard.runFrom] at h
  | cons p r ih =>
    intro s k h
    simp only [Guard.runFrom, List.cons_append] at h ⊢
    cases hs : Guard.stepS row s p.1 p.2 with
    | none => rfl
    | some s' => rw [hs] at h; exact ih s' (k + 1) h
theorem run_on (row : List Int) (more : List (Int × Int)) : ∀ (l : List (Int × Int)) (s : List Int) (k : Nat), (Guard.runFrom row s k l).2.2 = true → Guard.runFrom row s k (l ++ more) = Guard.runFrom row (Guard.runFrom row s k l).1 (k + l.length) more := by
  intro l
  induction l with
  | nil => intro s k h; simp [Guard.runFrom]
  | cons p r ih =>
    intro s k h
    simp only [Guard.runFrom, List.cons_append] at h ⊢
    cases hs : Guard.stepS row s p.1 p.2 with
    | none => rw [hs] at h; simp at h
    | some s' =>
      rw [hs] at h
      rw [show k + (p :: r).length = (k + 1) + r.length from by simp; omega]
      exact ih s' (k + 1) h
def gS (x : S50) : Int × Int := (x.f0, x.f1)
def sumTo (row : List Int) (x3 : List S50) (x4 : Int) : Prop := Guard.runFrom row [] 0 (x3.map gS) = ([x4], (x3.length : Int), true)
theorem sum_more {row : List Int} {x3 : List S50} {x4 : Int} (h : sumTo row x3 x4) (b : List S50) : Guard.runFrom row [] 0 ((x3 ++ b).map gS) = Guard.runFrom row [x4] x3.length (b.map gS) := by
  unfold sumTo at h
  rw [List.map_append, run_on row _ _ _ _ (by rw [h]), h]
  simp
theorem sum_first (row : List Int) (v : Int) : sumTo row [(⟨1, v⟩ : S50)] v := by
  simp [sumTo, gS, Guard.runFrom, stepS_push]
theorem sum_next {row : List Int} {x3 : List S50} {x4 : Int} (h : sumTo row x3 x4) (v : Int) : sumTo row (x3 ++ [(⟨1, v⟩ : S50)] ++ [(⟨2, 0⟩ : S50)]) (wrap64 (x4 + v)) := by
  unfold sumTo
  rw [List.append_assoc, sum_more h]
  have h2 : Guard.stepS row [x4, v] 2 0 = some [wrap64 (x4 + v)] := by simp [Guard.stepS, Guard.popS, Guard.pushS]
  simp only [List.cons_append, List.nil_append, List.map_cons, List.map_nil, gS, Guard.runFrom, stepS_push]
  rw [if_neg (by simp)]
  simp only [h2]
  simp
  omega
theorem sum_end {row : List Int} {x3 : List S50} {x4 : Int} (h : sumTo row x3 x4) : Guard.runFrom row [] 0 ((x3 ++ [(⟨1, 0⟩ : S50), (⟨3, 0⟩ : S50), (⟨5, 0⟩ : S50)]).map gS) = ([x4, 0], ((x3.length + 1 : Nat) : Int), false) := by
  rw [sum_more h]
  have h2 : Guard.stepS row ([x4] ++ [0]) 3 0 = none := by simp [Guard.stepS, Guard.popS]
  simp only [List.map_cons, List.map_nil, gS, Guard.runFrom, stepS_push]
  rw [if_neg (by simp)]
  simp only [h2]
  rfl

theorem GuardSums : darninglaw3_GuardSums.Pure := by
  intro l hm hy hw
  refine Ev.rounds ?_
  unfold darninglaw3_GuardSums.f
  have hA : ∀ (x : Bool), x = true → Ev (fun k => darninglaw3_GuardSums.j0 k l x) true := by
    rintro x rfl
    refine Ev.step (fun k => by rw [darninglaw3_GuardSums.j0]) ?_
    exact ev_pos rfl (ev_bindc awake3 (Ev.now _))
  by_cases h1 : (l.length : Int) < 1
  · exact ev_pos h1 (hA _ rfl)
  refine ev_neg h1 ?_
  by_cases h2 : (l.length : Int) > 200
  · exact hA _ (decide_eq_true h2)
  rw [decide_eq_false h2]
  refine Ev.step (fun k => by rw [darninglaw3_GuardSums.j0]) ?_
  refine ev_neg (by decide) ?_
  have hl : ∀ d (j : Nat) (x3 : List S50) (x4 : Int), j + d = l.length → ((j = 0 ∧ x3 = [] ∧ x4 = 0) ∨ (1 ≤ j ∧ ∀ row, sumTo row x3 x4)) → x3.length ≤ 2 * j → Ev (fun k => darninglaw3_GuardSums.l0 k l x3 x4 l (l.length : Int) (j : Int)) true := by
    intro d
    induction d with
    | zero =>
      intro j x3 x4 hj hi hx
      refine Ev.step (fun k => by rw [darninglaw3_GuardSums.l0]) ?_
      refine ev_neg (by omega) ?_
      obtain ⟨h0, _⟩ | ⟨_, hs⟩ := hi
      · omega
      refine ev_bindc (a := ([x4], (x3.length : Int), true)) (by have := hs []; exact congrArg some this) ?_
      refine ev_bindc rfl (ev_pos (by simp; omega) ?_)
      refine ev_bindc (a := ([x4, 0], ((x3.length + 1 : Nat) : Int), false)) (congrArg some (sum_end (hs l))) ?_
      refine ev_pos rfl (ev_pos rfl (ev_pos rfl (ev_pos (by simp) (ev_pos rfl (ev_neg (by simp) (ev_pos (by simp only; rw [w64 (by omega)]; rfl) (ev_pos rfl (ev_pos (by simp) (ev_pos rfl (ev_pos (by simp) (ev_pos rfl ?_)))))))))))
      exact ev_bindc awake3 (Ev.now _)
    | succ d ih =>
      intro j x3 x4 hj hi hx
      have hjl : j < l.length := by omega
      have hv := wf64 (hw (rd l (j : Int)) (by unfold rd; rw [Int.toNat_natCast, List.getD_eq_getElem?_getD, List.getElem?_eq_getElem hjl]; exact List.getElem_mem hjl))
      refine Ev.step (fun k => by rw [darninglaw3_GuardSums.l0]) ?_
      refine ev_pos (by omega) (ev_pos (by omega) (ev_pos (by omega) (ev_pos (by omega) (ev_bindc rfl ?_))))
      rw [w64 (show -9223372036854775808 ≤ (j : Int) + 1 ∧ (j : Int) + 1 ≤ 9223372036854775807 by omega)]
      obtain ⟨rfl, rfl, rfl⟩ | ⟨h0, hs⟩ := hi
      · refine ev_neg (by omega) ?_
        rw [Int.zero_add, w64 hv]
        exact ih 1 _ _ (by omega) (Or.inr ⟨by omega, fun row => sum_first row _⟩) (by simp)
      · refine ev_pos (by omega) (ev_pos (by simp; omega) ?_)
        exact ih (j + 1) _ _ (by omega) (Or.inr ⟨by omega, fun row => sum_next (hs row) _⟩) (by simp; omega)
  exact hl l.length 0 [] 0 (by omega) (Or.inl ⟨rfl, rfl, rfl⟩) (by simp)

end Go.Proofs.Ytjmlbkbjmeeplab.Pure

namespace Go.Proofs.Ytjmlbkbjmeeplab.PrintWords
open Go.ChangeShapes Go.WideShapes
/-- The printed words' lemma, under the name by which the printed row finds it. -/
theorem sized_ints {H : Type} {enc : TypeId × Value → H} {P : Program} {W : World} {base : Nat} {spare : Nat → Bool} {held : Bool} {t e : TypeId} {k : IntKind} {a : Option Addr} {len cap : Nat} {d : DataW H} {ps : List MemPlace} {ts : List TypeId} {ds : List (DataW H)} {j : Nat}
    (hsz : (DataW.weightsEach P ts ds).all (· ≤ reachBytes) = true) (ht : ts[j]? = some t) (hd : ds[j]? = some d) (hu : P.underlying t = some (.slice e)) (he : P.underlying e = some (.int k)) (hc : P.cellsOf e = 1) {B : Nat} (hB : P.bytesOf e = B)
    (h : DataW.Trod enc P W base spare held t (.slice a len cap) d ps) : len * B ≤ 140737488351232 :=
  Go.Proofs.YtjmlbkbjmeeplabW.PrintWords.sized_ints hsz ht hd hu he hc hB h
end Go.Proofs.Ytjmlbkbjmeeplab.PrintWords
