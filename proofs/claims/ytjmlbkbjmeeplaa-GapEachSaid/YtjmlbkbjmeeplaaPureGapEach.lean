/- GapEach: in as many moves as there are lines times slots, each line stands at each slot, about as often as at any other. No condition. -/
import Derived.Test.YtjmlbkbjmeeplaaXGapEachx
namespace Go.Proofs.Ytjmlbkbjmeeplaa.Pure
open Go.RowKit Go.Proofs.Ytjmlbkbjmeeplaa.XGapEach Go.Proofs.YtjmlbkbjmeeplaaW.PrintWords Go.Proofs.YtjmlbkbjmeeplaaW.PrintLast

theorem wf64 {a : Int} (h : (Lit.int .i64 a).wf = true) : -9223372036854775808 ≤ a ∧ a ≤ 9223372036854775807 := by
  simp [Lit.wf, IntKind.min, IntKind.max, IntKind.bits, IntKind.signed] at h
  omega
theorem wfu64 {a : Int} (h : (Lit.int .u64 a).wf = true) : 0 ≤ a ∧ a ≤ 18446744073709551615 := by
  simp [Lit.wf, IntKind.min, IntKind.max, IntKind.bits, IntKind.signed] at h
  omega
theorem u64w (n : Int) : IntKind.u64.wrap n = n % 18446744073709551616 := by simp [IntKind.wrap, IntKind.bits, IntKind.signed]
theorem w64 {n : Int} (h : -9223372036854775808 ≤ n ∧ n ≤ 9223372036854775807) : wrap64 n = n := by unfold wrap64; omega
theorem tmodp {a b : Int} (h : 0 ≤ a) : Int.tmod a b = a % b := Int.tmod_eq_emod_of_nonneg h
theorem tdivp {a b : Int} (h : 0 ≤ a) : Int.tdiv a b = a / b := Int.tdiv_eq_ediv_of_nonneg h
theorem u64_wraps (n : Int) (h₀ : 0 ≤ n) (h₁ : n < 2 ^ 64) : IntKind.u64.wrap n = n := by rw [u64w]; omega
theorem u64_mask (i : Nat) (hi : i ≤ 64) (x : Int) (h₀ : 0 ≤ x) (h₁ : x < 2 ^ 64) : Go.bits .and .u64 x (2 ^ i - 1) = x % 2 ^ i :=
  bits_mask .u64 64 (by decide) u64_wraps i hi x h₀ h₁
theorem u64_and1 {x : Int} (h₀ : 0 ≤ x) (h₁ : x ≤ 18446744073709551615) : Go.bits .and .u64 x 1 = x % 2 := u64_mask 1 (by decide) x h₀ (by omega)
theorem u64_and3 {x : Int} (h₀ : 0 ≤ x) (h₁ : x ≤ 18446744073709551615) : Go.bits .and .u64 x 3 = x % 4 := u64_mask 2 (by decide) x h₀ (by omega)
theorem u64_or1 {x : Int} (h₀ : 0 ≤ x) (h₁ : x ≤ 18446744073709551615) (h : x % 2 = 0) : Go.bits .or .u64 x 1 = x + 1 :=
  bits_join .u64 64 (by decide) u64_wraps 1 x 1 h₀ h (by omega) (by decide) (by decide) (by decide)
theorem modw (a m : Int) (h : 0 < m) (hm : m ≤ 1000000) : wrap64 (Int.tmod (IntKind.u64.wrap a) m) = (a % 18446744073709551616) % m := by
  rw [u64w, tmodp (by omega), w64]
  have := Int.emod_nonneg (a % 18446744073709551616) (b := m) (by omega)
  have := Int.emod_lt_of_pos (a % 18446744073709551616) h
  omega
theorem ev_pos {α : Type} {c : Prop} [Decidable c] {a b : Nat → Option α} {r : α} (h : c) (k : Ev a r) : Ev (fun n => if c then a n else b n) r := by
  simp only [if_pos h]; exact k
theorem ev_neg {α : Type} {c : Prop} [Decidable c] {a b : Nat → Option α} {r : α} (h : ¬ c) (k : Ev b r) : Ev (fun n => if c then a n else b n) r := by
  simp only [if_neg h]; exact k
theorem ev_ite {α : Type} {c : Prop} [Decidable c] {a b : Nat → Option α} {r : α} (h1 : c → Ev a r) (h2 : ¬ c → Ev b r) : Ev (fun n => if c then a n else b n) r := by
  by_cases h : c
  · exact ev_pos h (h1 h)
  · exact ev_neg h (h2 h)
theorem ev_bindc {α β : Type} {o : Option α} {f : Nat → α → Option β} {a : α} {r : β} (h : o = some a) (k : Ev (fun n => f n a) r) : Ev (fun n => o.bind (f n)) r := by
  subst h; exact k
theorem ev_bind {α β : Type} {g : Nat → Option α} {f : Nat → α → Option β} {a : α} {r : β} (h : Ev g a) (k : Ev (fun n => f n a) r) : Ev (fun n => (g n).bind (f n)) r := Ev.bind h k
theorem ev_now {α : Type} {r s : α} (h : s = r) : Ev (fun _ => some s) r := by subst h; exact Ev.now _
theorem ev_some {α : Type} {o : Option α} {r : α} (h : o = some r) : Ev (fun _ => o) r := ⟨0, fun _ _ => h⟩
theorem ev_one {α : Type} {g : Nat → Option α} {r : α} (h : ∀ k, g (k + 1) = some r) : Ev g r := ⟨1, fun k hk => by obtain ⟨m, rfl⟩ : ∃ m, k = m + 1 := ⟨k - 1, by omega⟩; exact h m⟩
theorem ev_two {α : Type} {g : Nat → Option α} {r : α} (h : ∀ k, g (k + 2) = some r) : Ev g r := ⟨2, fun k hk => by obtain ⟨m, rfl⟩ : ∃ m, k = m + 2 := ⟨k - 2, by omega⟩; exact h m⟩
def MayG (n m : Int) : Prop := 1 ≤ n ∧ n ≤ 100000 ∧ 0 ≤ m ∧ m ≤ 9223372036854775807
theorem gmay (n m : Int) (hm : m ≤ 9223372036854775807) : (MayG n m ∧ gap_may.f n m = some true) ∨ (¬ MayG n m ∧ gap_may.f n m = some false) := by
  unfold gap_may.f MayG
  by_cases h1 : n ≥ 1
  · rw [if_pos h1]
    by_cases h2 : n ≤ 100000
    · rw [if_pos h2]
      by_cases h3 : m ≥ 0
      · left; exact ⟨⟨h1, h2, h3, hm⟩, by rw [decide_eq_true h3]⟩
      · right; exact ⟨fun h => h3 h.2.2.1, by rw [decide_eq_false h3]⟩
    · rw [if_neg h2]; right; exact ⟨fun h => h2 h.2.1, rfl⟩
  · rw [if_neg h1]; right; exact ⟨fun h => h1 h.1, rfl⟩
theorem gmay_yes {n m : Int} (h : MayG n m) : gap_may.f n m = some true := by
  rcases gmay n m h.2.2.2 with h1 | h1
  · exact h1.2
  · exact absurd h h1.1
theorem gmay_no {n m : Int} (hm : m ≤ 9223372036854775807) (h : ¬ MayG n m) : gap_may.f n m = some false := by
  rcases gmay n m hm with h1 | h1
  · exact absurd h1.1 h
  · exact h1.2
theorem modr {m n : Int} (hn : 1 ≤ n) : 0 ≤ m % n ∧ m % n < n := ⟨Int.emod_nonneg _ (by omega), Int.emod_lt_of_pos _ (by omega)⟩
theorem divr {m n : Int} (hm : 0 ≤ m) (hn : 1 ≤ n) : 0 ≤ m / n ∧ m / n ≤ m := ⟨Int.ediv_nonneg hm (by omega), Int.ediv_le_self _ hm⟩
def gapS (n m : Int) : Int := n - m % (n + 1)
def turnS (n m : Int) : Int := m / (n + 1) % n
def slotS (n m l : Int) : Int := if gapS n m ≤ (l + turnS n m) % n then (l + turnS n m) % n + 1 else (l + turnS n m) % n
def lineS (n m s : Int) : Int := (if gapS n m < s then s - 1 + n - turnS n m else s + n - turnS n m) % n
theorem gapS_r {n m : Int} (h : MayG n m) : 0 ≤ gapS n m ∧ gapS n m ≤ n := by
  have := modr (m := m) (n := n + 1) (by have := h.1; omega)
  unfold gapS; omega
theorem turnS_r {n m : Int} (h : MayG n m) : 0 ≤ turnS n m ∧ turnS n m < n := by
  unfold MayG at h
  exact modr (by omega)
theorem gap_eq {n m : Int} (h : MayG n m) : gap_Gap.f n m = some (gapS n m) := by
  have hr := gapS_r h
  unfold gap_Gap.f
  rw [gmay_yes h]
  unfold MayG at h
  unfold gapS at hr ⊢
  rw [w64 (n := n + 1) (by omega), tmodp h.2.2.1]
  simp only [Option.bind_some, if_true]
  rw [if_neg (by omega), w64 (by omega)]
theorem gap_no {n m : Int} (hm : m ≤ 9223372036854775807) (h : ¬ MayG n m) : gap_Gap.f n m = some (-1) := by
  unfold gap_Gap.f
  rw [gmay_no hm h]
  rfl
theorem turned_eq {n m : Int} (h : MayG n m) : gap_turned.f n m = some (turnS n m) := by
  unfold gap_turned.f
  unfold MayG at h
  have := divr (m := m) (n := n + 1) h.2.2.1 (by omega)
  rw [w64 (n := n + 1) (by omega), tdivp h.2.2.1, if_neg (by omega), if_neg (by omega), w64 (by omega), tmodp this.1]
  rfl
theorem slot_ev {n m l : Int} (h : MayG n m) (h0 : 0 ≤ l) (h1 : l < n) : Ev (fun k => gap_Slot.f k n m l) (slotS n m l) := by
  have ht := turnS_r h
  have hg := gapS_r h
  refine ev_one fun k => ?_
  unfold gap_Slot.f
  rw [gmay_yes h]
  simp only [Option.bind_some, if_true]
  rw [if_neg (by omega), decide_eq_false (by omega)]
  simp only [gap_Slot.j0]
  rw [turned_eq h, gap_eq h]
  unfold MayG at h
  simp only [Option.bind_some]
  have hp := modr (m := l + turnS n m) (n := n) h.1
  rw [if_neg (by decide), if_neg (by omega), w64 (n := l + turnS n m) (by omega), tmodp (by omega), w64 (n := (l + turnS n m) % n + 1) (by omega)]
  unfold slotS
  by_cases hc : gapS n m ≤ (l + turnS n m) % n
  · rw [if_pos hc, if_pos hc]
  · rw [if_neg hc, if_neg hc]
theorem slot_no {n m l : Int} (hm : m ≤ 9223372036854775807) (h : ¬ (MayG n m ∧ 0 ≤ l ∧ l < n)) : Ev (fun k => gap_Slot.f k n m l) (-1) := by
  refine ev_one fun k => ?_
  unfold gap_Slot.f
  rcases gmay n m hm with ⟨h1, h2⟩ | ⟨h1, h2⟩
  · rw [h2]
    simp only [Option.bind_some, if_true]
    by_cases h3 : l < 0
    · rw [if_pos h3]; rfl
    · rw [if_neg h3, decide_eq_true (show l ≥ n from by
        have : ¬ (0 ≤ l ∧ l < n) := fun hh => h ⟨h1, hh⟩
        omega)]
      rfl
  · rw [h2]; rfl
theorem line_ev {n m s : Int} (h : MayG n m) (h0 : 0 ≤ s) (h1 : s ≤ n) (h2 : s ≠ gapS n m) : Ev (fun k => gap_Line.f k n m s) (lineS n m s) := by
  have ht := turnS_r h
  have hg := gapS_r h
  refine ev_one fun k => ?_
  unfold gap_Line.f
  rw [gmay_yes h, gap_eq h]
  simp only [Option.bind_some, if_true]
  rw [if_neg (by omega), if_neg (by omega), show (s == gapS n m) = false from by simp [h2]]
  simp only [gap_Line.j0]
  rw [turned_eq h]
  unfold MayG at h
  simp only [Option.bind_some]
  rw [if_neg (by decide)]
  unfold lineS
  by_cases hc : gapS n m < s
  · rw [if_pos hc, if_pos hc, if_neg (by omega), w64 (n := s - 1) (by omega), w64 (n := s - 1 + n) (by omega), w64 (by omega), tmodp (by omega)]
  · rw [if_neg (by omega), if_neg hc, if_neg (by omega), w64 (n := s + n) (by omega), w64 (by omega), tmodp (by omega)]
theorem line_no {n m s : Int} (hm : m ≤ 9223372036854775807) (h : ¬ (MayG n m ∧ 0 ≤ s ∧ s ≤ n ∧ s ≠ gapS n m)) : Ev (fun k => gap_Line.f k n m s) (-1) := by
  refine ev_one fun k => ?_
  unfold gap_Line.f
  rcases gmay n m hm with ⟨h1, h2⟩ | ⟨h1, h2⟩
  · rw [h2, gap_eq h1]
    simp only [Option.bind_some, if_true]
    by_cases h3 : s < 0
    · rw [if_pos h3]; rfl
    · rw [if_neg h3]
      by_cases h4 : s > n
      · rw [if_pos h4]; rfl
      · rw [if_neg h4]
        have h5 : s = gapS n m := by
          by_cases h6 : s = gapS n m
          · exact h6
          · exact absurd ⟨h1, by omega, by omega, h6⟩ h
        rw [show (s == gapS n m) = true from by simp [h5]]
        rfl
  · rw [h2, gap_no hm h1]; rfl
theorem move_eq {n m : Int} (h : MayG n m) : gap_Move.f n m = some (if gapS n m = 0 then (n, 0) else (gapS n m - 1, gapS n m)) := by
  have hg := gapS_r h
  unfold gap_Move.f
  rw [gap_eq h]
  unfold MayG at h
  simp only [Option.bind_some]
  rw [if_neg (by omega)]
  by_cases h0 : gapS n m = 0
  · rw [if_pos h0, if_pos h0]
  · rw [if_neg h0, if_neg h0, w64 (by omega)]
theorem move_no {n m : Int} (hm : m ≤ 9223372036854775807) (h : ¬ MayG n m) : gap_Move.f n m = some (-1, -1) := by
  unfold gap_Move.f
  rw [gap_no hm h]
  rfl
theorem awake_ev : Ev (fun k => darninglaw8_awake.f k) true := by
  have m0 : MayG 3 0 := by unfold MayG; omega
  have m1 : MayG 3 1 := by unfold MayG; omega
  unfold darninglaw8_awake.f
  refine ev_bindc (move_eq m0) ?_
  refine ev_bindc (gap_eq m0) ?_
  refine ev_pos (by decide) ?_
  refine ev_bind (slot_ev m0 (by omega) (by omega)) ?_
  refine ev_pos (by decide) ?_
  refine ev_bind (slot_ev m1 (by omega) (by omega)) ?_
  refine ev_pos (by decide) ?_
  refine ev_pos (by decide) ?_
  refine ev_pos (by decide) ?_
  refine ev_bind (line_ev m1 (by omega) (by omega) (by decide)) ?_
  exact ev_now (by decide)
def slotN (n m l : Nat) : Nat := if n - m % (n + 1) ≤ (l + m / (n + 1) % n) % n then (l + m / (n + 1) % n) % n + 1 else (l + m / (n + 1) % n) % n
theorem slot_cast (n m l : Nat) : slotS n m l = (slotN n m l : Nat) := by
  have h := Nat.mod_lt m (y := n + 1) (by omega)
  unfold slotS gapS turnS slotN
  have e1 : ((m : Int) % ((n : Int) + 1)) = ((m % (n + 1) : Nat) : Int) := by rw [Int.natCast_emod, Int.natCast_add]; rfl
  have e2 : (((l : Int) + (m : Int) / ((n : Int) + 1) % (n : Int)) % (n : Int)) = (((l + m / (n + 1) % n) % n : Nat) : Int) := by
    rw [Int.natCast_emod, Int.natCast_add, Int.natCast_emod, Int.natCast_ediv]
    rfl
  rw [e1, e2]
  by_cases c : n - m % (n + 1) ≤ (l + m / (n + 1) % n) % n
  · rw [if_pos c, if_pos (by omega)]; omega
  · rw [if_neg c, if_neg (by omega)]
theorem slot_round (n m l : Nat) : slotN n (m + n * (n + 1)) l = slotN n m l := by
  unfold slotN
  rw [Nat.add_mul_mod_self_right, Nat.add_mul_div_right _ _ (by omega), Nat.add_mod_right]
/-- How often a line stands at slot s in t moves from a on. -/
def cnt (n l s a : Nat) : Nat → Nat
  | 0 => 0
  | t + 1 => cnt n l s a t + (if slotN n (a + t) l = s then 1 else 0)
theorem cnt_front (n l s a t : Nat) : cnt n l s a (t + 1) = (if slotN n a l = s then 1 else 0) + cnt n l s (a + 1) t := by
  induction t with
  | zero => show 0 + (if slotN n (a + 0) l = s then 1 else 0) = (if slotN n a l = s then 1 else 0) + 0; rw [Nat.add_zero, Nat.zero_add]; rfl
  | succ t ih =>
    show cnt n l s a (t + 1) + (if slotN n (a + (t + 1)) l = s then 1 else 0) = _ + (cnt n l s (a + 1) t + (if slotN n (a + 1 + t) l = s then 1 else 0))
    rw [ih, show a + (t + 1) = a + 1 + t from by omega, Nat.add_assoc]
theorem cnt_shift (n l s a : Nat) : cnt n l s (a + 1) (n * (n + 1)) = cnt n l s a (n * (n + 1)) := by
  have h1 := cnt_front n l s a (n * (n + 1))
  have h2 : cnt n l s a (n * (n + 1) + 1) = cnt n l s a (n * (n + 1)) + (if slotN n (a + n * (n + 1)) l = s then 1 else 0) := rfl
  rw [slot_round] at h2
  omega
theorem cnt_start (n l s a : Nat) : cnt n l s a (n * (n + 1)) = cnt n l s 0 (n * (n + 1)) := by
  induction a with
  | zero => rfl
  | succ a ih => rw [cnt_shift, ih]
def chk : Bool := (List.range 16).all fun n => n == 0 || (List.range n).all fun l => (List.range (n + 1)).all fun s => cnt n l s 0 (n * (n + 1)) == n
theorem chk_yes : chk = true := by decide +kernel
theorem cnt_n {n l s a : Nat} (h1 : 1 ≤ n) (h2 : n < 16) (h3 : l < n) (h4 : s ≤ n) : cnt n l s a (n * (n + 1)) = n := by
  rw [cnt_start]
  have h := chk_yes
  unfold chk at h
  rw [List.all_eq_true] at h
  have a1 := h n (List.mem_range.2 h2)
  rw [Bool.or_eq_true] at a1
  rcases a1 with a1 | a1
  · rw [beq_iff_eq] at a1; omega
  rw [List.all_eq_true] at a1
  have a2 := a1 l (List.mem_range.2 h3)
  rw [List.all_eq_true] at a2
  have a3 := a2 s (List.mem_range.2 (by omega))
  exact beq_iff_eq.1 a3
theorem cnt_le (n l s a t : Nat) : cnt n l s a t ≤ t := by
  induction t with
  | zero => exact Nat.le_refl _
  | succ t ih => show cnt n l s a t + _ ≤ t + 1; split <;> omega
theorem rd_setn {t : List Int} {i : Nat} (v : Int) (j : Nat) (hi : i < t.length) : rd (t.set i v) (j : Int) = if j = i then v else rd t (j : Int) := by
  unfold rd
  rw [List.getD_eq_getElem?_getD, List.getD_eq_getElem?_getD, Int.toNat_natCast, List.getElem?_set]
  by_cases h : i = j
  · rw [if_pos h, if_pos h.symm, if_pos hi]; rfl
  · rw [if_neg h, if_neg (fun e => h e.symm)]
theorem each_l1 {n : Int} {c : List Int} (hn : 1 ≤ n ∧ n ≤ 15) (hl : (c.length : Int) = n + 1) (hc : ∀ j : Nat, (j : Int) ≤ n → rd c (j : Int) = n) (d : Nat) : ∀ j : Nat, (j : Int) + d = n + 1 → Ev (fun k => darninglaw8_GapEach.l1 k n c (c.length : Int) (j : Int)) true := by
  induction d with
  | zero =>
    intro j hj
    refine Ev.step (fun k => by rw [darninglaw8_GapEach.l1]) ?_
    exact ev_neg (by omega) (ev_bind awake_ev (Ev.now _))
  | succ d ih =>
    intro j hj
    have e := hc j (by omega)
    refine Ev.step (fun k => by rw [darninglaw8_GapEach.l1]) ?_
    rw [w64 (n := n + 1) (by omega), w64 (n := (j : Int) + 1) (by omega), e]
    exact ev_pos (by omega) (ev_pos (by omega) (ev_pos (by omega) (ev_neg (by omega) (ev_neg (by omega) (ih (j + 1) (by omega))))))
theorem each_l0 {n m l : Nat} (hn : 1 ≤ n ∧ n ≤ 15) (hm : m ≤ 10000) (hl : l < n) (d : Nat) : ∀ (t : Nat) (c : List Int), t + d = n * (n + 1) → c.length = n + 1 → (∀ j : Nat, j ≤ n → rd c (j : Int) = cnt n l j m t) →
    Ev (fun k => darninglaw8_GapEach.l0 k n m l c ((n * (n + 1) : Nat) : Int) (t : Int)) true := by
  have hb : n * (n + 1) ≤ 240 := Nat.le_trans (Nat.mul_le_mul hn.2 (by omega : n + 1 ≤ 16)) (by decide)
  induction d with
  | zero =>
    intro t c ht hlen hc
    refine Ev.step (fun k => by rw [darninglaw8_GapEach.l0]) ?_
    refine ev_neg (by omega) ?_
    refine each_l1 (n := (n : Int)) (by omega) (by omega) (fun j hj => ?_) (n + 1) 0 (by omega)
    rw [hc j (by omega), show t = n * (n + 1) from by omega, cnt_n hn.1 (by omega) hl (by omega)]
  | succ d ih =>
    intro t c ht hlen hc
    have M : MayG (n : Int) ((m + t : Nat) : Int) := by unfold MayG; omega
    have hs := slot_ev (l := (l : Int)) M (by omega) (by omega)
    rw [slot_cast] at hs
    have hsl : slotN n (m + t) l ≤ n := by
      have := Nat.mod_lt (l + (m + t) / (n + 1) % n) (y := n) (by omega)
      unfold slotN
      split <;> omega
    have hcs := hc (slotN n (m + t) l) hsl
    have hle := cnt_le n l (slotN n (m + t) l) m t
    refine Ev.step (fun k => by rw [darninglaw8_GapEach.l0]) ?_
    rw [w64 (n := (m : Int) + (t : Int)) (by omega), w64 (n := (t : Int) + 1) (by omega)]
    rw [show ((m : Int) + (t : Int)) = ((m + t : Nat) : Int) from by omega]
    refine ev_pos (by omega) (ev_bind hs (ev_neg (by omega) (ev_neg (by omega) (ev_pos (by omega) (ev_pos (by omega) ?_)))))
    rw [hcs, w64 (by omega), Int.toNat_natCast]
    refine ih (t + 1) (c.set (slotN n (m + t) l) ((cnt n l (slotN n (m + t) l) m t : Nat) + 1)) (by omega) (by rw [List.length_set]; exact hlen) (fun j hj => ?_)
    rw [rd_setn _ _ (by omega)]
    show _ = ((cnt n l j m t + (if slotN n (m + t) l = j then 1 else 0) : Nat) : Int)
    by_cases c : j = slotN n (m + t) l
    · rw [if_pos c, if_pos c.symm, c]; omega
    · rw [if_neg c, if_neg (fun e => c e.symm), hc j hj]; omega
theorem GapEach : darninglaw8_GapEach.Pure := by
  intro a b c h0 h1 h2
  apply Ev.rounds
  unfold darninglaw8_GapEach.f
  rw [modw a 15 (by omega) (by omega), modw b 10000 (by omega) (by omega), w64 (n := 1 + a % 18446744073709551616 % 15) (by omega)]
  obtain ⟨n, hn⟩ : ∃ n : Nat, 1 + a % 18446744073709551616 % 15 = (n : Int) := ⟨(1 + a % 18446744073709551616 % 15).toNat, by omega⟩
  obtain ⟨m, hm⟩ : ∃ m : Nat, b % 18446744073709551616 % 10000 = (m : Int) := ⟨(b % 18446744073709551616 % 10000).toNat, by omega⟩
  have hnr : 1 ≤ n ∧ n ≤ 15 := by omega
  have hmr : m ≤ 10000 := by omega
  rw [hn, hm, u64w (n : Int), show (n : Int) % 18446744073709551616 = n from by omega, modw c _ (by omega) (by omega)]
  have x0 := Int.emod_nonneg (c % 18446744073709551616) (b := (n : Int)) (by omega)
  have x1 := Int.emod_lt_of_pos (c % 18446744073709551616) (b := (n : Int)) (by omega)
  obtain ⟨l, hl⟩ : ∃ l : Nat, c % 18446744073709551616 % (n : Int) = (l : Int) := ⟨(c % 18446744073709551616 % (n : Int)).toNat, by omega⟩
  rw [hl] at x1 ⊢
  have hb : n * (n + 1) ≤ 240 := Nat.le_trans (Nat.mul_le_mul hnr.2 (by omega : n + 1 ≤ 16)) (by decide)
  have hp : (n : Int) * ((n : Int) + 1) = ((n * (n + 1) : Nat) : Int) := by rw [Int.natCast_mul]; rfl
  rw [w64 (n := (n : Int) + 1) (by omega), hp, w64 (n := ((n * (n + 1) : Nat) : Int)) (by omega)]
  refine ev_neg (by omega) (ev_pos (by omega) (ev_pos (by omega) ?_))
  have := each_l0 hnr hmr (by omega : l < n) (n * (n + 1)) 0 (List.replicate ((n : Int) + 1).toNat 0) (by omega) (by rw [List.length_replicate]; omega) (fun j hj => by
    show _ = ((0 : Nat) : Int)
    unfold rd
    rw [List.getD_eq_getElem?_getD, List.getElem?_replicate]
    split <;> rfl)
  exact this

end Go.Proofs.Ytjmlbkbjmeeplaa.Pure
