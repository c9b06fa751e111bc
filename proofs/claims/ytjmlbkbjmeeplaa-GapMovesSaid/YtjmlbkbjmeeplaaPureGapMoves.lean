/- GapMoves: a move moves one line alone, to where the gap was; all others stay; each line has a slot of its own, never the gap. No condition. -/
import Derived.Test.YtjmlbkbjmeeplaaXGapMovesx
namespace Go.Proofs.Ytjmlbkbjmeeplaa.Pure
open Go.RowKit Go.Proofs.Ytjmlbkbjmeeplaa.XGapMoves Go.Proofs.YtjmlbkbjmeeplaaW.PrintWords Go.Proofs.YtjmlbkbjmeeplaaW.PrintLast

theorem wf64 {a : Int} (h : (Lit.int .i64 a).wf = true) : -9223372036854775808 ≤ a ∧ a ≤ 9223372036854775807 := by
  simp [Lit.wf, IntKind.min, IntKind.max, IntKind.bits, IntKind.signed] at h
  omega
theorem wfu64 {a : Int} (h : (Lit.int .u64 a).wf = true) : 0 ≤ a ∧ a ≤ 18446744073709551615 := by
  simp [Lit.wf, IntKind.min, IntKind.max, IntKind.bits, IntKind.signed] at h
  omega
theorem u64w (n : Int) : IntKind.u64.wrap n = n % 18446744073709551616 := by simp [IntKind.wrap, IntKind.bits, IntKind.signed]
theorem w64 {n : Int} (h : -9223372036854775808 ≤ n ∧ n ≤ 9223372036854775807) : wrap64 n = n := by unfold wrap64; omega
theorem tmodp {a b : Int} (h : 0 ≤ a) : Int.tmod a b = a % b := Int.tmod_eq_emod_of_nonneg h
theorem tdivp {a b : Int} (h : 0 ≤ a) : Int.tdiv a b = a / b := Int.tdiv_eq_ediv_of_nonneg h
theorem u64_wraps (n : Int) (h₀ : 0 ≤ n) (h₁ : n < 2 ^ 64) : IntKind.u64.wrap n = n := by rw [u64w]; omega
theorem u64_mask (i : Nat) (hi : i ≤ 64) (x : Int) (h₀ : 0 ≤ x) (h₁ : x < 2 ^ 64) : Go.bits .and .u64 x (2 ^ i - 1) = x % 2 ^ i :=
  bits_mask .u64 64 (by decide) u64_wraps i hi x h₀ h₁
theorem u64_and1 {x : Int} (h₀ : 0 ≤ x) (h₁ : x ≤ 18446744073709551615) : Go.bits .and .u64 x 1 = x % 2 := u64_mask 1 (by decide) x h₀ (by omega)
theorem u64_and3 {x : Int} (h₀ : 0 ≤ x) (h₁ : x ≤ 18446744073709551615) : Go.bits .and .u64 x 3 = x % 4 := u64_mask 2 (by decide) x h₀ (by omega)
theorem u64_or1 {x : Int} (h₀ : 0 ≤ x) (h₁ : x ≤ 18446744073709551615) (h : x % 2 = 0) : Go.bits .or .u64 x 1 = x + 1 :=
  bits_join .u64 64 (by decide) u64_wraps 1 x 1 h₀ h (by omega) (by decide) (by decide) (by decide)
theorem modw (a m : Int) (h : 0 < m) (hm : m ≤ 1000000) : wrap64 (Int.tmod (IntKind.u64.wrap a) m) = (a % 18446744073709551616) % m := by
  rw [u64w, tmodp (by omega), w64]
  have := Int.emod_nonneg (a % 18446744073709551616) (b := m) (by omega)
  have := Int.emod_lt_of_pos (a % 18446744073709551616) h
  omega
theorem ev_pos {α : Type} {c : Prop} [Decidable c] {a b : Nat → Option α} {r : α} (h : c) (k : Ev a r) : Ev (fun n => if c then a n else b n) r := by
  simp only [if_pos h]; exact k
theorem ev_neg {α : Type} {c : Prop} [Decidable c] {a b : Nat → Option α} {r : α} (h : ¬ c) (k : Ev b r) : Ev (fun n => if c then a n else b n) r := by
  simp only [if_neg h]; exact k
theorem ev_ite {α : Type} {c : Prop} [Decidable c] {a b : Nat → Option α} {r : α} (h1 : c → Ev a r) (h2 : ¬ c → Ev b r) : Ev (fun n => if c then a n else b n) r := by
  by_cases h : c
  · exact ev_pos h (h1 h)
  · exact ev_neg h (h2 h)
theorem ev_bindc {α β : Type} {o : Option α} {f : Nat → α → Option β} {a : α} {r : β} (h : o = some a) (k : Ev (fun n => f n a) r) : Ev (fun n => o.bind (f n)) r := by
  subst h; exact k
theorem ev_bind {α β : Type} {g : Nat → Option α} {f : Nat → α → Option β} {a : α} {r : β} (h : Ev g a) (k : Ev (fun n => f n a) r) : Ev (fun n => (g n).bind (f n)) r := Ev.bind h k
theorem ev_now {α : Type} {r s : α} (h : s = r) : Ev (fun _ => some s) r := by subst h; exact Ev.now _
theorem ev_some {α : Type} {o : Option α} {r : α} (h : o = some r) : Ev (fun _ => o) r := ⟨0, fun _ _ => h⟩
theorem ev_one {α : Type} {g : Nat → Option α} {r : α} (h : ∀ k, g (k + 1) = some r) : Ev g r := ⟨1, fun k hk => by obtain ⟨m, rfl⟩ : ∃ m, k = m + 1 := ⟨k - 1, by omega⟩; exact h m⟩
theorem ev_two {α : Type} {g : Nat → Option α} {r : α} (h : ∀ k, g (k + 2) = some r) : Ev g r := ⟨2, fun k hk => by obtain ⟨m, rfl⟩ : ∃ m, k = m + 2 := ⟨k - 2, by omega⟩; exact h m⟩
def MayG (n m : Int) : Prop := 1 ≤ n ∧ n ≤ 100000 ∧ 0 ≤ m ∧ m ≤ 9223372036854775807
theorem gmay (n m : Int) (hm : m ≤ 9223372036854775807) : (MayG n m ∧ gap_may.f n m = some true) ∨ (¬ MayG n m ∧ gap_may.f n m = some false) := by
  unfold gap_may.f MayG
  by_cases h1 : n ≥ 1
  · rw [if_pos h1]
    by_cases h2 : n ≤ 100000
    · rw [if_pos h2]
      by_cases h3 : m ≥ 0
      · left; exact ⟨⟨h1, h2, h3, hm⟩, by rw [decide_eq_true h3]⟩
      · right; exact ⟨fun h => h3 h.2.2.1, by rw [decide_eq_false h3]⟩
    · rw [if_neg h2]; right; exact ⟨fun h => h2 h.2.1, rfl⟩
  · rw [if_neg h1]; right; exact ⟨fun h => h1 h.1, rfl⟩
theorem gmay_yes {n m : Int} (h : MayG n m) : gap_may.f n m = some true := by
  rcases gmay n m h.2.2.2 with h1 | h1
  · exact h1.2
  · exact absurd h h1.1
theorem gmay_no {n m : Int} (hm : m ≤ 9223372036854775807) (h : ¬ MayG n m) : gap_may.f n m = some false := by
  rcases gmay n m hm with h1 | h1
  · exact absurd h1.1 h
  · exact h1.2
theorem modr {m n : Int} (hn : 1 ≤ n) : 0 ≤ m % n ∧ m % n < n := ⟨Int.emod_nonneg _ (by omega), Int.emod_lt_of_pos _ (by omega)⟩
theorem divr {m n : Int} (hm : 0 ≤ m) (hn : 1 ≤ n) : 0 ≤ m / n ∧ m / n ≤ m := ⟨Int.ediv_nonneg hm (by omega), Int.ediv_le_self _ hm⟩
def gapS (n m : Int) : Int := n - m % (n + 1)
def turnS (n m : Int) : Int := m / (n + 1) % n
def slotS (n m l : Int) : Int := if gapS n m ≤ (l + turnS n m) % n then (l + turnS n m) % n + 1 else (l + turnS n m) % n
def lineS (n m s : Int) : Int := (if gapS n m < s then s - 1 + n - turnS n m else s + n - turnS n m) % n
theorem gapS_r {n m : Int} (h : MayG n m) : 0 ≤ gapS n m ∧ gapS n m ≤ n := by
  have := modr (m := m) (n := n + 1) (by have := h.1; omega)
  unfold gapS; omega
theorem turnS_r {n m : Int} (h : MayG n m) : 0 ≤ turnS n m ∧ turnS n m < n := by
  unfold MayG at h
  exact modr (by omega)
theorem gap_eq {n m : Int} (h : MayG n m) : gap_Gap.f n m = some (gapS n m) := by
  have hr := gapS_r h
  unfold gap_Gap.f
  rw [gmay_yes h]
  unfold MayG at h
  unfold gapS at hr ⊢
  rw [w64 (n := n + 1) (by omega), tmodp h.2.2.1]
  simp only [Option.bind_some, if_true]
  rw [if_neg (by omega), w64 (by omega)]
theorem gap_no {n m : Int} (hm : m ≤ 9223372036854775807) (h : ¬ MayG n m) : gap_Gap.f n m = some (-1) := by
  unfold gap_Gap.f
  rw [gmay_no hm h]
  rfl
theorem turned_eq {n m : Int} (h : MayG n m) : gap_turned.f n m = some (turnS n m) := by
  unfold gap_turned.f
  unfold MayG at h
  have := divr (m := m) (n := n + 1) h.2.2.1 (by omega)
  rw [w64 (n := n + 1) (by omega), tdivp h.2.2.1, if_neg (by omega), if_neg (by omega), w64 (by omega), tmodp this.1]
  rfl
theorem slot_ev {n m l : Int} (h : MayG n m) (h0 : 0 ≤ l) (h1 : l < n) : Ev (fun k => gap_Slot.f k n m l) (slotS n m l) := by
  have ht := turnS_r h
  have hg := gapS_r h
  refine ev_one fun k => ?_
  unfold gap_Slot.f
  rw [gmay_yes h]
  simp only [Option.bind_some, if_true]
  rw [if_neg (by omega), decide_eq_false (by omega)]
  simp only [gap_Slot.j0]
  rw [turned_eq h, gap_eq h]
  unfold MayG at h
  simp only [Option.bind_some]
  have hp := modr (m := l + turnS n m) (n := n) h.1
  rw [if_neg (by decide), if_neg (by omega), w64 (n := l + turnS n m) (by omega), tmodp (by omega), w64 (n := (l + turnS n m) % n + 1) (by omega)]
  unfold slotS
  by_cases hc : gapS n m ≤ (l + turnS n m) % n
  · rw [if_pos hc, if_pos hc]
  · rw [if_neg hc, if_neg hc]
theorem slot_no {n m l : Int} (hm : m ≤ 9223372036854775807) (h : ¬ (MayG n m ∧ 0 ≤ l ∧ l < n)) : Ev (fun k => gap_Slot.f k n m l) (-1) := by
  refine ev_one fun k => ?_
  unfold gap_Slot.f
  rcases gmay n m hm with ⟨h1, h2⟩ | ⟨h1, h2⟩
  · rw [h2]
    simp only [Option.bind_some, if_true]
    by_cases h3 : l < 0
    · rw [if_pos h3]; rfl
    · rw [if_neg h3, decide_eq_true (show l ≥ n from by
        have : ¬ (0 ≤ l ∧ l < n) := fun hh => h ⟨h1, hh⟩
        omega)]
      rfl
  · rw [h2]; rfl
theorem line_ev {n m s : Int} (h : MayG n m) (h0 : 0 ≤ s) (h1 : s ≤ n) (h2 : s ≠ gapS n m) : Ev (fun k => gap_Line.f k n m s) (lineS n m s) := by
  have ht := turnS_r h
  have hg := gapS_r h
  refine ev_one fun k => ?_
  unfold gap_Line.f
  rw [gmay_yes h, gap_eq h]
  simp only [Option.bind_some, if_true]
  rw [if_neg (by omega), if_neg (by omega), show (s == gapS n m) = false from by simp [h2]]
  simp only [gap_Line.j0]
  rw [turned_eq h]
  unfold MayG at h
  simp only [Option.bind_some]
  rw [if_neg (by decide)]
  unfold lineS
  by_cases hc : gapS n m < s
  · rw [if_pos hc, if_pos hc, if_neg (by omega), w64 (n := s - 1) (by omega), w64 (n := s - 1 + n) (by omega), w64 (by omega), tmodp (by omega)]
  · rw [if_neg (by omega), if_neg hc, if_neg (by omega), w64 (n := s + n) (by omega), w64 (by omega), tmodp (by omega)]
theorem line_no {n m s : Int} (hm : m ≤ 9223372036854775807) (h : ¬ (MayG n m ∧ 0 ≤ s ∧ s ≤ n ∧ s ≠ gapS n m)) : Ev (fun k => gap_Line.f k n m s) (-1) := by
  refine ev_one fun k => ?_
  unfold gap_Line.f
  rcases gmay n m hm with ⟨h1, h2⟩ | ⟨h1, h2⟩
  · rw [h2, gap_eq h1]
    simp only [Option.bind_some, if_true]
    by_cases h3 : s < 0
    · rw [if_pos h3]; rfl
    · rw [if_neg h3]
      by_cases h4 : s > n
      · rw [if_pos h4]; rfl
      · rw [if_neg h4]
        have h5 : s = gapS n m := by
          by_cases h6 : s = gapS n m
          · exact h6
          · exact absurd ⟨h1, by omega, by omega, h6⟩ h
        rw [show (s == gapS n m) = true from by simp [h5]]
        rfl
  · rw [h2, gap_no hm h1]; rfl
theorem move_eq {n m : Int} (h : MayG n m) : gap_Move.f n m = some (if gapS n m = 0 then (n, 0) else (gapS n m - 1, gapS n m)) := by
  have hg := gapS_r h
  unfold gap_Move.f
  rw [gap_eq h]
  unfold MayG at h
  simp only [Option.bind_some]
  rw [if_neg (by omega)]
  by_cases h0 : gapS n m = 0
  · rw [if_pos h0, if_pos h0]
  · rw [if_neg h0, if_neg h0, w64 (by omega)]
theorem move_no {n m : Int} (hm : m ≤ 9223372036854775807) (h : ¬ MayG n m) : gap_Move.f n m = some (-1, -1) := by
  unfold gap_Move.f
  rw [gap_no hm h]
  rfl
theorem awake_ev : Ev (fun k => darninglaw8_awake.f k) true := by
  have m0 : MayG 3 0 := by unfold MayG; omega
  have m1 : MayG 3 1 := by unfold MayG; omega
  unfold darninglaw8_awake.f
  refine ev_bindc (move_eq m0) ?_
  refine ev_bindc (gap_eq m0) ?_
  refine ev_pos (by decide) ?_
  refine ev_bind (slot_ev m0 (by omega) (by omega)) ?_
  refine ev_pos (by decide) ?_
  refine ev_bind (slot_ev m1 (by omega) (by omega)) ?_
  refine ev_pos (by decide) ?_
  refine ev_pos (by decide) ?_
  refine ev_pos (by decide) ?_
  refine ev_bind (line_ev m1 (by omega) (by omega) (by decide)) ?_
  exact ev_now (by decide)
theorem dm {a b q r : Int} (hb : 0 < b) (h : a = b * q + r) (h0 : 0 ≤ r) (h1 : r < b) : a / b = q ∧ a % b = r :=
  (Int.ediv_emod_unique hb).2 ⟨by omega, h0, h1⟩
theorem succ_mod {x n : Int} (hn : 1 ≤ n) : (x + 1) % n = if x % n + 1 = n then 0 else x % n + 1 := by
  have h := Int.mul_ediv_add_emod x n
  have hr := modr (m := x) hn
  by_cases h1 : x % n + 1 = n
  · rw [if_pos h1]
    refine (dm (q := x / n + 1) (by omega) ?_ (by omega) (by omega)).2
    rw [Int.mul_add]; omega
  · rw [if_neg h1]
    exact (dm (q := x / n) (by omega) (by omega) (by omega) (by omega)).2
/-- Where a line would be, were there no gap. -/
def posS (n m l : Int) : Int := (l + m / (n + 1)) % n
theorem slot_pos (n m l : Int) : slotS n m l = if n - m % (n + 1) ≤ posS n m l then posS n m l + 1 else posS n m l := by
  unfold slotS gapS turnS posS
  rw [Int.add_emod_emod]
theorem step_in {n m j : Int} (hn : 1 ≤ n) (hj : 0 ≤ j) (h : m % (n + 1) + j ≤ n) : (m + j) % (n + 1) = m % (n + 1) + j ∧ ∀ l, posS n (m + j) l = posS n m l := by
  have e := Int.mul_ediv_add_emod m (n + 1)
  have hr := modr (m := m) (n := n + 1) (by omega)
  have := dm (a := m + j) (b := n + 1) (q := m / (n + 1)) (r := m % (n + 1) + j) (by omega) (by omega) (by omega) (by omega)
  exact ⟨this.2, fun l => by unfold posS; rw [this.1]⟩
theorem step_on {n m j : Int} (hn : 1 ≤ n) (h : n < m % (n + 1) + j) (hj : j ≤ n + 1) : (m + j) % (n + 1) = m % (n + 1) + j - n - 1 ∧ ∀ l, posS n (m + j) l = if posS n m l + 1 = n then 0 else posS n m l + 1 := by
  have e := Int.mul_ediv_add_emod m (n + 1)
  have hr := modr (m := m) (n := n + 1) (by omega)
  have := dm (a := m + j) (b := n + 1) (q := m / (n + 1) + 1) (r := m % (n + 1) + j - n - 1) (by omega) (by rw [Int.mul_add]; omega) (by omega) (by omega)
  refine ⟨this.2, fun l => ?_⟩
  unfold posS
  rw [this.1, show l + (m / (n + 1) + 1) = l + m / (n + 1) + 1 from by omega]
  exact succ_mod hn
theorem pos_r {n m l : Int} (hn : 1 ≤ n) : 0 ≤ posS n m l ∧ posS n m l < n := modr hn
/-- In n times n + 1 moves all is where it was. -/
theorem round_all {n m : Int} (hn : 1 ≤ n) : (m + n * (n + 1)) % (n + 1) = m % (n + 1) ∧ ∀ l, posS n (m + n * (n + 1)) l = posS n m l := by
  have e := Int.mul_ediv_add_emod m (n + 1)
  have hr := modr (m := m) (n := n + 1) (by omega)
  have := dm (a := m + n * (n + 1)) (b := n + 1) (q := m / (n + 1) + n) (r := m % (n + 1)) (by omega) (by rw [Int.mul_comm n (n + 1), Int.mul_add (n + 1)]; omega) (by omega) (by omega)
  refine ⟨this.2, fun l => ?_⟩
  unfold posS
  rw [this.1, show l + (m / (n + 1) + n) = l + m / (n + 1) + n from by omega, Int.add_emod_right]
theorem line_r {n m s : Int} (h : MayG n m) : 0 ≤ lineS n m s ∧ lineS n m s < n := modr h.1
theorem slot_line {n m s : Int} (h : MayG n m) (h0 : 0 ≤ s) (h1 : s ≤ n) (h2 : s ≠ gapS n m) : slotS n m (lineS n m s) = s := by
  have hg := gapS_r h
  have ht := turnS_r h
  unfold slotS lineS
  rw [Int.emod_add_emod]
  unfold MayG at h
  have e : ∀ x : Int, 0 ≤ x → x < n → (x + n - turnS n m + turnS n m) % n = x := by
    intro x hx hx1
    rw [show x + n - turnS n m + turnS n m = x + n from by omega, Int.add_emod_right]
    exact Int.emod_eq_of_lt hx hx1
  by_cases hc : gapS n m < s
  · rw [if_pos hc, e (s - 1) (by omega) (by omega), if_pos (by omega)]; omega
  · rw [if_neg hc, e s (by omega) (by omega), if_neg (by omega)]
theorem line_slot {n m l : Int} (h : MayG n m) (h0 : 0 ≤ l) (h1 : l < n) : lineS n m (slotS n m l) = l := by
  have ht := turnS_r h
  have e : ((l + turnS n m) % n + n - turnS n m) % n = l := by
    rw [show (l + turnS n m) % n + n - turnS n m = (l + turnS n m) % n + (n - turnS n m) from by omega, Int.emod_add_emod, show l + turnS n m + (n - turnS n m) = l + n from by omega, Int.add_emod_right]
    exact Int.emod_eq_of_lt h0 h1
  unfold lineS slotS
  by_cases hc : gapS n m ≤ (l + turnS n m) % n
  · rw [if_pos hc, if_pos (by omega), show (l + turnS n m) % n + 1 - 1 + n - turnS n m = (l + turnS n m) % n + n - turnS n m from by omega]; exact e
  · rw [if_neg hc, if_neg (by omega)]; exact e
theorem slot_r {n m l : Int} (h : MayG n m) : 0 ≤ slotS n m l ∧ slotS n m l ≤ n ∧ slotS n m l ≠ gapS n m := by
  have hp := modr (m := l + turnS n m) (n := n) h.1
  have hg := gapS_r h
  unfold slotS
  by_cases hc : gapS n m ≤ (l + turnS n m) % n
  · rw [if_pos hc]; omega
  · rw [if_neg hc]; omega
theorem ev_two_k {α β : Type} {g : Nat → Option α} {f : Nat → Option β} {a : α} {b : β} (h : Ev g a) (h' : Ev f b) : ∃ K, ∀ k, K ≤ k → g k = some a ∧ f k = some b := by
  obtain ⟨K, hK⟩ := h
  obtain ⟨L, hL⟩ := h'
  exact ⟨max K L, fun k hk => ⟨hK k (by omega), hL k (by omega)⟩⟩
theorem all_below (P : Nat → Int → Prop) : ∀ N : Nat, (∀ l : Int, 0 ≤ l → l < N → ∃ K, ∀ k, K ≤ k → P k l) → ∃ K, ∀ k, K ≤ k → ∀ l : Int, 0 ≤ l → l < N → P k l
  | 0, _ => ⟨0, fun k _ l h0 h1 => by omega⟩
  | N + 1, h => by
    obtain ⟨K, hK⟩ := all_below P N (fun l h0 h1 => h l h0 (by omega))
    obtain ⟨L, hL⟩ := h (N : Int) (by omega) (by omega)
    refine ⟨max K L, fun k hk l h0 h1 => ?_⟩
    by_cases e : l = (N : Int)
    · subst e; exact hL k (by omega)
    · exact hK k (by omega) l h0 (by omega)
theorem moves_pure {n m : Int} (hn : 1 ≤ n ∧ n ≤ 60) (hm : 0 ≤ m ∧ m < 100000) : ∃ k fr to_ mv, GapFacts k n m fr to_ mv := by
  have M : MayG n m := ⟨hn.1, by omega, hm.1, by omega⟩
  have M1 : MayG n (m + 1) := ⟨hn.1, by omega, by omega, by omega⟩
  have hg := gapS_r M
  obtain ⟨fr, hfr⟩ : ∃ fr, fr = if gapS n m = 0 then n else gapS n m - 1 := ⟨_, rfl⟩
  have hr := modr (m := m) (n := n + 1) (by omega)
  have hfr2 : 0 ≤ fr ∧ fr ≤ n ∧ fr ≠ gapS n m := by
    by_cases h0 : gapS n m = 0
    · rw [if_pos h0] at hfr; omega
    · rw [if_neg h0] at hfr; omega
  have hmove : gap_Move.f n m = some (fr, gapS n m) := by
    rw [move_eq M, hfr]
    by_cases h0 : gapS n m = 0
    · rw [if_pos h0, if_pos h0, h0]
    · rw [if_neg h0, if_neg h0]
  have hmv := line_r (s := fr) M
  have hAm := slot_line M hfr2.1 hfr2.2.1 hfr2.2.2
  have hstep : gapS n (m + 1) = fr ∧ ∀ l, 0 ≤ l → l < n → (slotS n m l = fr → slotS n (m + 1) l = gapS n m) ∧ (slotS n m l ≠ fr → slotS n m l = slotS n (m + 1) l) := by
    by_cases hc : m % (n + 1) + 1 ≤ n
    · obtain ⟨e1, e2⟩ := step_in hn.1 (show (0 : Int) ≤ 1 by omega) hc
      have hg0 : gapS n m ≠ 0 := by unfold gapS; omega
      rw [if_neg hg0] at hfr
      have e3 : gapS n (m + 1) = fr := by rw [hfr]; unfold gapS; rw [e1]; omega
      refine ⟨e3, fun l h0 h1 => ?_⟩
      have hp := pos_r (m := m) (l := l) hn.1
      rw [slot_pos n m l, slot_pos n (m + 1) l, e2 l, e1]
      unfold gapS at hfr ⊢
      by_cases c1 : n - m % (n + 1) ≤ posS n m l
      · rw [if_pos c1, if_pos (by omega)]; omega
      · rw [if_neg c1]
        by_cases c2 : n - (m % (n + 1) + 1) ≤ posS n m l
        · rw [if_pos c2]; omega
        · rw [if_neg c2]; omega
    · obtain ⟨e1, e2⟩ := step_on hn.1 (Int.not_le.1 hc) (show (1 : Int) ≤ n + 1 by omega)
      have hg0 : gapS n m = 0 := by unfold gapS; omega
      rw [if_pos hg0] at hfr
      have e3 : gapS n (m + 1) = fr := by rw [hfr]; unfold gapS; rw [e1]; omega
      refine ⟨e3, fun l h0 h1 => ?_⟩
      have hp := pos_r (m := m) (l := l) hn.1
      rw [hg0, slot_pos n m l, slot_pos n (m + 1) l, e2 l, e1, if_pos (show n - m % (n + 1) ≤ posS n m l by omega)]
      by_cases c1 : posS n m l + 1 = n
      · rw [if_pos c1, if_neg (by omega)]; omega
      · rw [if_neg c1, if_neg (by omega)]; omega
  obtain ⟨K1, h1⟩ := ev_two_k (line_ev M hfr2.1 hfr2.2.1 hfr2.2.2) (line_no (n := n) (m := m) (s := gapS n m) (by omega) (by omega))
  obtain ⟨K2, h2⟩ := awake_ev
  obtain ⟨N, hN⟩ : ∃ N : Nat, (N : Int) = n := ⟨n.toNat, by omega⟩
  obtain ⟨K3, h3⟩ := all_below (fun k l => gap_Slot.f k n m l = some (slotS n m l) ∧ gap_Slot.f k n (m + 1) l = some (slotS n (m + 1) l) ∧ gap_Line.f k n m (slotS n m l) = some l) N (fun l h0 h1 => by
    have hs := slot_r (l := l) M
    obtain ⟨K, hK⟩ := ev_two_k (slot_ev M h0 (by omega)) (slot_ev M1 h0 (by omega))
    obtain ⟨L, hL⟩ := line_ev M hs.1 hs.2.1 hs.2.2
    refine ⟨max K L, fun k hk => ⟨(hK k (by omega)).1, (hK k (by omega)).2, ?_⟩⟩
    have := hL k (by omega)
    rw [line_slot M h0 (by omega)] at this
    exact this)
  refine ⟨max K1 (max K2 K3), fr, gapS n m, lineS n m fr, hmove, (h1 _ (by omega)).1, gap_eq M, by rw [gap_eq M1, hstep.1], hmv.1, (h1 _ (by omega)).2, h2 _ (by omega), slotS n m, slotS n (m + 1), fun l h0 hl => ?_, fun l l' h0 hll hl' e => ?_⟩
  · obtain ⟨a1, a2, a3⟩ := h3 (max K1 (max K2 K3)) (by omega) l h0 (by omega)
    have hs := slot_r (l := l) M
    obtain ⟨b1, b2⟩ := hstep.2 l h0 hl
    refine ⟨a1, a2, hs.1, hs.2.1, hs.2.2, a3, fun e => ?_, fun e => b2 (fun e2 => e ?_)⟩
    · rw [e] at b1 ⊢
      exact ⟨hAm, b1 hAm⟩
    · rw [← e2, line_slot M h0 hl]
  · have := line_slot M h0 (by omega)
    rw [← e, line_slot M (by omega) hl'] at this
    omega

theorem GapMoves : darninglaw8_GapMoves.Pure := by
  intro a b wa wb
  have h1 := Int.emod_nonneg (a % 18446744073709551616) (b := 60) (by omega)
  have h2 := Int.emod_lt_of_pos (a % 18446744073709551616) (show (0 : Int) < 60 by omega)
  have h3 := Int.emod_nonneg (b % 18446744073709551616) (b := 100000) (by omega)
  have h4 := Int.emod_lt_of_pos (b % 18446744073709551616) (show (0 : Int) < 100000 by omega)
  exact moves_pure ⟨by omega, by omega⟩ ⟨h3, h4⟩

end Go.Proofs.Ytjmlbkbjmeeplaa.Pure
