/- SpareNext: given to a slot, the next spare line stands for it, and there is one less; the others are where they were. No condition. -/
import Derived.Test.YtjmlbkbjmeeplaaXSpareNextx
import Derived.Test.YtjmlbkbjmeeplaaWSized
namespace Go.Proofs.Ytjmlbkbjmeeplaa.Pure
open Go.RowKit Go.Proofs.Ytjmlbkbjmeeplaa.XSpareNext Go.Proofs.YtjmlbkbjmeeplaaW.PrintWords Go.Proofs.YtjmlbkbjmeeplaaW.PrintLast

theorem wf64 {a : Int} (h : (Lit.int .i64 a).wf = true) : -9223372036854775808 ≤ a ∧ a ≤ 9223372036854775807 := by
  simp [Lit.wf, IntKind.min, IntKind.max, IntKind.bits, IntKind.signed] at h
  omega
theorem wfu64 {a : Int} (h : (Lit.int .u64 a).wf = true) : 0 ≤ a ∧ a ≤ 18446744073709551615 := by
  simp [Lit.wf, IntKind.min, IntKind.max, IntKind.bits, IntKind.signed] at h
  omega
theorem u64w (n : Int) : IntKind.u64.wrap n = n % 18446744073709551616 := by simp [IntKind.wrap, IntKind.bits, IntKind.signed]
theorem w64 {n : Int} (h : -9223372036854775808 ≤ n ∧ n ≤ 9223372036854775807) : wrap64 n = n := by unfold wrap64; omega
theorem tmodp {a b : Int} (h : 0 ≤ a) : Int.tmod a b = a % b := Int.tmod_eq_emod_of_nonneg h
theorem tdivp {a b : Int} (h : 0 ≤ a) : Int.tdiv a b = a / b := Int.tdiv_eq_ediv_of_nonneg h
theorem u64_wraps (n : Int) (h₀ : 0 ≤ n) (h₁ : n < 2 ^ 64) : IntKind.u64.wrap n = n := by rw [u64w]; omega
theorem u64_mask (i : Nat) (hi : i ≤ 64) (x : Int) (h₀ : 0 ≤ x) (h₁ : x < 2 ^ 64) : Go.bits .and .u64 x (2 ^ i - 1) = x % 2 ^ i :=
  bits_mask .u64 64 (by decide) u64_wraps i hi x h₀ h₁
theorem u64_and1 {x : Int} (h₀ : 0 ≤ x) (h₁ : x ≤ 18446744073709551615) : Go.bits .and .u64 x 1 = x % 2 := u64_mask 1 (by decide) x h₀ (by omega)
theorem u64_and3 {x : Int} (h₀ : 0 ≤ x) (h₁ : x ≤ 18446744073709551615) : Go.bits .and .u64 x 3 = x % 4 := u64_mask 2 (by decide) x h₀ (by omega)
theorem u64_or1 {x : Int} (h₀ : 0 ≤ x) (h₁ : x ≤ 18446744073709551615) (h : x % 2 = 0) : Go.bits .or .u64 x 1 = x + 1 :=
  bits_join .u64 64 (by decide) u64_wraps 1 x 1 h₀ h (by omega) (by decide) (by decide) (by decide)
theorem modw (a m : Int) (h : 0 < m) (hm : m ≤ 1000000) : wrap64 (Int.tmod (IntKind.u64.wrap a) m) = (a % 18446744073709551616) % m := by
  rw [u64w, tmodp (by omega), w64]
  have := Int.emod_nonneg (a % 18446744073709551616) (b := m) (by omega)
  have := Int.emod_lt_of_pos (a % 18446744073709551616) h
  omega
theorem ev_pos {α : Type} {c : Prop} [Decidable c] {a b : Nat → Option α} {r : α} (h : c) (k : Ev a r) : Ev (fun n => if c then a n else b n) r := by
  simp only [if_pos h]; exact k
theorem ev_neg {α : Type} {c : Prop} [Decidable c] {a b : Nat → Option α} {r : α} (h : ¬ c) (k : Ev b r) : Ev (fun n => if c then a n else b n) r := by
  simp only [if_neg h]; exact k
theorem ev_ite {α : Type} {c : Prop} [Decidable c] {a b : Nat → Option α} {r : α} (h1 : c → Ev a r) (h2 : ¬ c → Ev b r) : Ev (fun n => if c then a n else b n) r := by
  by_cases h : c
  · exact ev_pos h (h1 h)
  · exact ev_neg h (h2 h)
theorem ev_bindc {α β : Type} {o : Option α} {f : Nat → α → Option β} {a : α} {r : β} (h : o = some a) (k : Ev (fun n => f n a) r) : Ev (fun n => o.bind (f n)) r := by
  subst h; exact k
theorem ev_bind {α β : Type} {g : Nat → Option α} {f : Nat → α → Option β} {a : α} {r : β} (h : Ev g a) (k : Ev (fun n => f n a) r) : Ev (fun n => (g n).bind (f n)) r := Ev.bind h k
theorem ev_now {α : Type} {r s : α} (h : s = r) : Ev (fun _ => some s) r := by subst h; exact Ev.now _
theorem ev_some {α : Type} {o : Option α} {r : α} (h : o = some r) : Ev (fun _ => o) r := ⟨0, fun _ _ => h⟩
theorem ev_one {α : Type} {g : Nat → Option α} {r : α} (h : ∀ k, g (k + 1) = some r) : Ev g r := ⟨1, fun k hk => by obtain ⟨m, rfl⟩ : ∃ m, k = m + 1 := ⟨k - 1, by omega⟩; exact h m⟩
theorem ev_two {α : Type} {g : Nat → Option α} {r : α} (h : ∀ k, g (k + 2) = some r) : Ev g r := ⟨2, fun k hk => by obtain ⟨m, rfl⟩ : ∃ m, k = m + 2 := ⟨k - 2, by omega⟩; exact h m⟩
/-- The tables that the statement speaks of. -/
def Tab (t : List Int) : Prop := t.length ≤ 1000 ∧ ∀ j : Int, 0 ≤ rd t j ∧ rd t j ≤ 18446744073709551615
theorem tab_of {t : List Int} (h : ∀ x ∈ t, (Lit.int .u64 x).wf = true) (hl : t.length ≤ 1000) : Tab t := by
  refine ⟨hl, fun j => ?_⟩
  unfold rd
  rw [List.getD_eq_getElem?_getD]
  by_cases hj : j.toNat < t.length
  · rw [List.getElem?_eq_getElem hj]
    exact wfu64 (h _ (List.getElem_mem hj))
  · rw [List.getElem?_eq_none (by omega)]; exact ⟨by decide, by decide⟩
def Good (t : List Int) (s j : Int) : Prop := rd t j ≤ s + 1 ∧ (0 < j → rd t j ≠ 0 → rd t (j - 1) ≠ 0)
def MayP (t : List Int) (s : Int) : Prop := 1 ≤ s ∧ ∀ j : Int, 0 ≤ j → j < t.length → Good t s j
theorem dead_eq {s : Int} (h : 1 ≤ s) (h2 : s ≤ 9223372036854775807) : spare_Dead.f s = some (s + 1) := by
  unfold spare_Dead.f
  rw [if_neg (by omega), u64w, u64w]
  congr 1; omega
theorem dead_no {s : Int} (h : ¬ 1 ≤ s) : spare_Dead.f s = some 0 := by
  unfold spare_Dead.f
  rw [if_pos (by omega)]
theorem whose {a : Int} (h : 0 ≤ a) (h2 : a ≤ 9223372036854775807) : IntKind.u64.wrap (IntKind.u64.wrap a + 1) = a + 1 := by
  rw [u64w, u64w]; omega
theorem good_from {t : List Int} {s i : Int} (hi : Good t s i) : (∀ j : Int, i ≤ j → j < t.length → Good t s j) ↔ ∀ j : Int, i + 1 ≤ j → j < t.length → Good t s j := by
  constructor
  · exact fun h j h1 h2 => h j (by omega) h2
  · intro h j h1 h2
    by_cases e : j = i
    · subst e; exact hi
    · exact h j (by omega) h2
theorem may_l0 {t : List Int} {s : Int} (ht : Tab t) (h1 : 1 ≤ s) (h2 : s ≤ 9223372036854775807) (d : Nat) : ∀ i : Int, 0 ≤ i → i + d = t.length →
    ∃ b, Ev (fun k => spare_May.l0 k t s t (t.length : Int) i) b ∧ (b = true ↔ ∀ j : Int, i ≤ j → j < t.length → Good t s j) := by
  have hlen := ht.1
  induction d with
  | zero =>
    intro i h0 hd
    refine ⟨true, Ev.step (fun k => by rw [spare_May.l0]) ?_, ?_⟩
    · refine ev_neg (by omega) ?_
      exact ev_now (by simp; omega)
    · exact ⟨fun _ j hj hk => by omega, fun _ => rfl⟩
  | succ d ih =>
    intro i h0 hd
    obtain ⟨b, hb, hiff⟩ := ih (i + 1) (by omega) (by omega)
    have hr := ht.2 i
    have hlt : i < (t.length : Int) := by omega
    by_cases c1 : rd t i > s + 1
    · refine ⟨false, Ev.step (fun k => by rw [spare_May.l0]) ?_, ?_⟩
      · refine ev_pos hlt (ev_pos h0 (ev_pos hlt (ev_bindc (dead_eq h1 h2) (ev_pos c1 (Ev.now _)))))
      · constructor
        · intro h; cases h
        · intro h; have := (h i (by omega) hlt).1; omega
    · by_cases c2 : i > 0 ∧ rd t i ≠ 0 ∧ rd t (i - 1) = 0
      · refine ⟨false, Ev.step (fun k => by rw [spare_May.l0]) ?_, ?_⟩
        · refine ev_pos hlt (ev_pos h0 (ev_pos hlt (ev_bindc (dead_eq h1 h2) (ev_neg c1 (ev_pos c2.1 (ev_neg c2.2.1 ?_))))))
          rw [w64 (n := i - 1) (by omega)]
          exact ev_pos (by omega) (ev_pos (by omega) (ev_pos c2.2.2 (Ev.now _)))
        · constructor
          · intro h; cases h
          · intro h; exact absurd c2.2.2 ((h i (by omega) hlt).2 (by omega) c2.2.1)
      · have hgood : Good t s i := ⟨by omega, fun a1 a2 a3 => c2 ⟨by omega, a2, a3⟩⟩
        refine ⟨b, Ev.step (fun k => by rw [spare_May.l0]) ?_, hiff.trans (good_from hgood).symm⟩
        refine ev_pos hlt (ev_pos h0 (ev_pos hlt (ev_bindc (dead_eq h1 h2) (ev_neg c1 ?_))))
        rw [w64 (n := i + 1) (by omega)]
        refine ev_ite (fun c3 => ?_) (fun _ => hb)
        refine ev_ite (fun _ => hb) (fun c4 => ?_)
        rw [w64 (n := i - 1) (by omega)]
        exact ev_pos (by omega) (ev_pos (by omega) (ev_neg (fun c5 => c2 ⟨c3, c4, c5⟩) hb))
theorem may_l0_no {t : List Int} {s : Int} (ht : Tab t) (h1 : ¬ 1 ≤ s) (d : Nat) : ∀ i : Int, 0 ≤ i → i + d = t.length →
    Ev (fun k => spare_May.l0 k t s t (t.length : Int) i) false := by
  have hlen := ht.1
  induction d with
  | zero =>
    intro i h0 hd
    refine Ev.step (fun k => by rw [spare_May.l0]) ?_
    refine ev_neg (by omega) ?_
    exact ev_now (by simp; omega)
  | succ d ih =>
    intro i h0 hd
    have hb := ih (i + 1) (by omega) (by omega)
    have hr := ht.2 i
    have hlt : i < (t.length : Int) := by omega
    refine Ev.step (fun k => by rw [spare_May.l0]) ?_
    refine ev_pos hlt (ev_pos h0 (ev_pos hlt (ev_bindc (dead_no h1) ?_)))
    refine ev_ite (fun _ => Ev.now _) (fun _ => ?_)
    rw [w64 (n := i + 1) (by omega)]
    refine ev_ite (fun c3 => ?_) (fun _ => hb)
    refine ev_ite (fun _ => hb) (fun c4 => ?_)
    rw [w64 (n := i - 1) (by omega)]
    exact ev_pos (by omega) (ev_pos (by omega) (ev_ite (fun _ => Ev.now _) (fun _ => hb)))
theorem may_ev {t : List Int} {s : Int} (ht : Tab t) (h2 : s ≤ 9223372036854775807) : ∃ b, Ev (fun k => spare_May.f k t s) b ∧ (b = true ↔ MayP t s) := by
  unfold spare_May.f
  by_cases h1 : 1 ≤ s
  · obtain ⟨b, hb, hiff⟩ := may_l0 ht h1 h2 t.length 0 (by omega) (by omega)
    exact ⟨b, hb, hiff.trans ⟨fun h => ⟨h1, fun j a c => h j a c⟩, fun h j a c => h.2 j a c⟩⟩
  · exact ⟨false, may_l0_no ht h1 t.length 0 (by omega) (by omega), ⟨fun h => (by cases h), fun h => absurd h.1 h1⟩⟩
theorem may_yes {t : List Int} {s : Int} (ht : Tab t) (h2 : s ≤ 9223372036854775807) (h : MayP t s) : Ev (fun k => spare_May.f k t s) true := by
  obtain ⟨b, hb, hi⟩ := may_ev ht h2
  rwa [hi.2 h] at hb
theorem may_no {t : List Int} {s : Int} (ht : Tab t) (h2 : s ≤ 9223372036854775807) (h : ¬ MayP t s) : Ev (fun k => spare_May.f k t s) false := by
  obtain ⟨b, hb, hi⟩ := may_ev ht h2
  cases b with
  | true => exact absurd (hi.1 rfl) h
  | false => exact hb
/-- The line that stands for a slot. -/
def PlaceP (t : List Int) (s a r : Int) : Prop :=
  (∃ i : Int, 0 ≤ i ∧ i < t.length ∧ rd t i = a + 1 ∧ (∀ j : Int, i < j → j < t.length → rd t j ≠ a + 1) ∧ r = s + i) ∨ ((∀ j : Int, 0 ≤ j → j < t.length → rd t j ≠ a + 1) ∧ r = a)
theorem place_one {t : List Int} {s a r r' : Int} (h : PlaceP t s a r) (h' : PlaceP t s a r') : r = r' := by
  rcases h with ⟨i, h0, h1, h2, h3, rfl⟩ | ⟨h, rfl⟩
  · rcases h' with ⟨i', h0', h1', h2', h3', rfl⟩ | ⟨h', rfl⟩
    · by_cases e : i = i'
      · subst e; rfl
      · by_cases l : i < i'
        · exact absurd h2' (h3 i' l h1')
        · exact absurd h2 (h3' i (by omega) h1)
    · exact absurd h2 (h' i h0 h1)
  · rcases h' with ⟨i', h0', h1', h2', h3', rfl⟩ | ⟨h', rfl⟩
    · exact absurd h2' (h i' h0' h1')
    · rfl
theorem place_l0 {t : List Int} {s a : Int} (ht : Tab t) (hs : s ≤ 1099511627776) (ha : 0 ≤ a) (has : a < s) (d : Nat) : ∀ i : Int, i + 1 = d → i < t.length →
    (∀ j : Int, i < j → j < t.length → rd t j ≠ a + 1) → ∃ r, Ev (fun k => spare_Place.l0 k t s a i) r ∧ PlaceP t s a r := by
  have hlen := ht.1
  induction d with
  | zero =>
    intro i hd h1 hno
    refine ⟨a, Ev.step (fun k => by rw [spare_Place.l0]) ?_, Or.inr ⟨fun j h => hno j (by omega), rfl⟩⟩
    exact ev_neg (by omega) (Ev.now _)
  | succ d ih =>
    intro i hd h1 hno
    by_cases c : rd t i = a + 1
    · refine ⟨s + i, Ev.step (fun k => by rw [spare_Place.l0]) ?_, Or.inl ⟨i, by omega, h1, c, hno, rfl⟩⟩
      refine ev_pos (by omega) (ev_pos (by omega) (ev_pos h1 ?_))
      rw [whose ha (by omega), w64 (n := s + i) (by omega)]
      exact ev_pos c (Ev.now _)
    · obtain ⟨r, hr, hp⟩ := ih (i - 1) (by omega) (by omega) (fun j hj hk => by
        by_cases e : j = i
        · subst e; exact c
        · exact hno j (by omega) hk)
      refine ⟨r, Ev.step (fun k => by rw [spare_Place.l0]) ?_, hp⟩
      refine ev_pos (by omega) (ev_pos (by omega) (ev_pos h1 ?_))
      rw [whose ha (by omega), w64 (n := i - 1) (by omega)]
      exact ev_neg c hr
theorem place_ev {t : List Int} {s a : Int} (ht : Tab t) (hs : s ≤ 1099511627776) (ha : 0 ≤ a) (has : a < s) : ∃ r, Ev (fun k => spare_Place.f k t s a) r ∧ PlaceP t s a r := by
  have hlen := ht.1
  obtain ⟨r, hr, hp⟩ := place_l0 ht hs ha has t.length (t.length - 1) (by omega) (by omega) (fun j _ _ => by omega)
  refine ⟨r, ?_, hp⟩
  unfold spare_Place.f
  refine ev_neg (by omega) ?_
  rw [decide_eq_false (by omega)]
  refine Ev.step (fun k => by rw [spare_Place.j0]) ?_
  refine ev_neg (by decide) ?_
  rw [w64 (by omega)]
  exact hr
theorem place_is {t : List Int} {s a r : Int} (ht : Tab t) (hs : s ≤ 1099511627776) (ha : 0 ≤ a) (has : a < s) (h : PlaceP t s a r) : Ev (fun k => spare_Place.f k t s a) r := by
  obtain ⟨q, hq, hp⟩ := place_ev ht hs ha has
  rwa [place_one hp h] at hq
/-- The first word that is nought. -/
def NextP (t : List Int) (r : Int) : Prop :=
  (0 ≤ r ∧ r < t.length ∧ rd t r = 0 ∧ ∀ j : Int, 0 ≤ j → j < r → rd t j ≠ 0) ∨ (r = -1 ∧ ∀ j : Int, 0 ≤ j → j < t.length → rd t j ≠ 0)
theorem next_one {t : List Int} {r r' : Int} (h : NextP t r) (h' : NextP t r') : r = r' := by
  rcases h with ⟨h0, h1, h2, h3⟩ | ⟨rfl, h⟩
  · rcases h' with ⟨h0', h1', h2', h3'⟩ | ⟨rfl, h'⟩
    · by_cases l : r < r'
      · exact absurd h2 (h3' r h0 l)
      · by_cases l' : r' < r
        · exact absurd h2' (h3 r' h0' l')
        · omega
    · exact absurd h2 (h' r h0 h1)
  · rcases h' with ⟨h0', h1', h2', h3'⟩ | ⟨rfl, h'⟩
    · exact absurd h2' (h r' h0' h1')
    · rfl
theorem next_l0 {t : List Int} (ht : Tab t) (d : Nat) : ∀ i : Int, 0 ≤ i → i + d = t.length → (∀ j : Int, 0 ≤ j → j < i → rd t j ≠ 0) →
    ∃ r, Ev (fun k => spare_Next.l0 k t (t.length : Int) i) r ∧ NextP t r := by
  have hlen := ht.1
  induction d with
  | zero =>
    intro i h0 hd hno
    refine ⟨-1, Ev.step (fun k => by rw [spare_Next.l0]) ?_, Or.inr ⟨rfl, fun j a b => hno j a (by omega)⟩⟩
    exact ev_neg (by omega) (Ev.now _)
  | succ d ih =>
    intro i h0 hd hno
    have hlt : i < (t.length : Int) := by omega
    by_cases c : rd t i = 0
    · refine ⟨i, Ev.step (fun k => by rw [spare_Next.l0]) ?_, Or.inl ⟨h0, hlt, c, hno⟩⟩
      exact ev_pos hlt (ev_pos h0 (ev_pos hlt (ev_pos c (Ev.now _))))
    · obtain ⟨r, hr, hp⟩ := ih (i + 1) (by omega) (by omega) (fun j hj hk => by
        by_cases e : j = i
        · subst e; exact c
        · exact hno j hj (by omega))
      refine ⟨r, Ev.step (fun k => by rw [spare_Next.l0]) ?_, hp⟩
      refine ev_pos hlt (ev_pos h0 (ev_pos hlt (ev_neg c ?_)))
      rw [w64 (n := i + 1) (by omega)]
      exact hr
theorem next_ev {t : List Int} (ht : Tab t) : ∃ r, Ev (fun k => spare_Next.f k t) r ∧ NextP t r :=
  next_l0 ht t.length 0 (by omega) (by omega) (fun j _ _ => by omega)
theorem next_is {t : List Int} {r : Int} (ht : Tab t) (h : NextP t r) : Ev (fun k => spare_Next.f k t) r := by
  obtain ⟨q, hq, hp⟩ := next_ev ht
  rwa [next_one hp h] at hq
theorem drop_rd {t : List Int} {i : Nat} (h : i < t.length) : t.drop i = rd t (i : Int) :: t.drop (i + 1) := by
  rw [List.drop_eq_getElem_cons h]
  unfold rd
  rw [List.getD_eq_getElem?_getD, Int.toNat_natCast, List.getElem?_eq_getElem h]
  rfl
/-- How many words are nought. -/
def leftS (t : List Int) : Int := ((t.count 0 : Nat) : Int)
theorem left_l0 {t : List Int} (ht : Tab t) (d : Nat) : ∀ (i : Nat) (n : Int), i + d = t.length → 0 ≤ n → n ≤ i →
    Ev (fun k => spare_Left.l0 k n t (t.length : Int) (i : Int)) (n + leftS (t.drop i)) := by
  have hlen := ht.1
  induction d with
  | zero =>
    intro i n hd h0 h1
    refine Ev.step (fun k => by rw [spare_Left.l0]) ?_
    refine ev_neg (by omega) (ev_now ?_)
    rw [List.drop_eq_nil_of_le (by omega)]
    simp [leftS]
  | succ d ih =>
    intro i n hd h0 h1
    have hlt : (i : Int) < (t.length : Int) := by omega
    refine Ev.step (fun k => by rw [spare_Left.l0]) ?_
    refine ev_pos hlt (ev_pos (by omega) (ev_pos hlt ?_))
    rw [w64 (n := (i : Int) + 1) (by omega), w64 (n := n + 1) (by omega), drop_rd (by omega), show (i : Int) + 1 = ((i + 1 : Nat) : Int) from by omega]
    refine ev_ite (fun c => ?_) (fun c => ?_)
    · have h := ih (i + 1) (n + 1) (by omega) (by omega) (by omega)
      rw [c]
      have e : n + leftS (0 :: t.drop (i + 1)) = n + 1 + leftS (t.drop (i + 1)) := by simp [leftS]; omega
      rw [e]; exact h
    · have h := ih (i + 1) n (by omega) (by omega) (by omega)
      have e : n + leftS (rd t i :: t.drop (i + 1)) = n + leftS (t.drop (i + 1)) := by simp [leftS, c]
      rw [e]; exact h
theorem left_ev {t : List Int} (ht : Tab t) : Ev (fun k => spare_Left.f k t) (leftS t) := by
  have h := left_l0 ht t.length 0 0 (by omega) (by omega) (by omega)
  rw [List.drop_zero, Int.zero_add] at h
  exact h
theorem awake_ev : Ev (fun k => darninglaw6_awake.f k) true := by
  have ht : Tab [3, 0] := by
    refine ⟨by decide, fun j => ?_⟩
    unfold rd
    generalize j.toNat = i
    match i with
    | 0 => exact ⟨by decide, by decide⟩
    | 1 => exact ⟨by decide, by decide⟩
    | i + 2 => exact ⟨by simp, by simp⟩
  have two : ∀ j : Int, 0 ≤ j → j < 2 → j = 0 ∨ j = 1 := fun j _ _ => by omega
  unfold darninglaw6_awake.f
  refine ev_bindc rfl ?_
  refine ev_bind (may_yes ht (by omega) ⟨by omega, fun j h0 h1 => ?_⟩) ?_
  · rcases two j h0 h1 with rfl | rfl
    · exact ⟨by decide, fun h => by omega⟩
    · exact ⟨by decide, fun _ h => absurd rfl h⟩
  refine ev_pos rfl ?_
  refine ev_bind (place_is ht (by omega) (by omega) (by omega) (r := 5) (Or.inl ⟨0, by omega, by decide, by decide, fun j h0 h1 => ?_, by omega⟩)) ?_
  · rcases two j (by omega) h1 with rfl | rfl
    · omega
    · decide
  refine ev_pos rfl ?_
  refine ev_bind (place_is ht (by omega) (by omega) (by omega) (r := 1) (Or.inr ⟨fun j h0 h1 => ?_, rfl⟩)) ?_
  · rcases two j (by omega) h1 with rfl | rfl <;> decide
  refine ev_pos rfl ?_
  refine ev_bind (next_is ht (r := 1) (Or.inl ⟨by omega, by decide, by decide, fun j h0 h1 => ?_⟩)) ?_
  · rcases two j (by omega) (by omega) with rfl | rfl
    · decide
    · omega
  refine ev_pos rfl ?_
  refine ev_bind (left_ev ht) ?_
  refine ev_pos (by decide) ?_
  exact ev_bindc (dead_eq (by omega) (by omega)) (ev_now (by decide))
theorem mayt_l0 {t : List Int} {s : Int} (ht : Tab t) (h1 : 1 ≤ s) (h2 : s ≤ 9223372036854775807) (d : Nat) : ∀ i : Int, 0 ≤ i → i + d = t.length →
    ∃ b, Ev (fun k => darningref4_MayTable.l0 k t s t (t.length : Int) i) b ∧ (b = true ↔ ∀ j : Int, i ≤ j → j < t.length → Good t s j) := by
  have hlen := ht.1
  induction d with
  | zero =>
    intro i h0 hd
    refine ⟨true, Ev.step (fun k => by rw [darningref4_MayTable.l0]) ?_, ?_⟩
    · exact ev_neg (by omega) (Ev.now _)
    · exact ⟨fun _ j hj hk => by omega, fun _ => rfl⟩
  | succ d ih =>
    intro i h0 hd
    obtain ⟨b, hb, hiff⟩ := ih (i + 1) (by omega) (by omega)
    have hr := ht.2 i
    have hlt : i < (t.length : Int) := by omega
    by_cases c1 : rd t i > s + 1
    · refine ⟨false, Ev.step (fun k => by rw [darningref4_MayTable.l0]) ?_, ?_⟩
      · rw [whose (by omega) h2]
        exact ev_pos hlt (ev_pos h0 (ev_pos hlt (ev_pos c1 (Ev.now _))))
      · constructor
        · intro h; cases h
        · intro h; have := (h i (by omega) hlt).1; omega
    · by_cases c2 : i > 0 ∧ rd t i ≠ 0 ∧ rd t (i - 1) = 0
      · refine ⟨false, Ev.step (fun k => by rw [darningref4_MayTable.l0]) ?_, ?_⟩
        · rw [whose (by omega) h2, w64 (n := i - 1) (by omega)]
          exact ev_pos hlt (ev_pos h0 (ev_pos hlt (ev_neg c1 (ev_pos c2.1 (ev_neg c2.2.1 (ev_pos (by omega) (ev_pos (by omega) (ev_pos c2.2.2 (Ev.now _)))))))))
        · constructor
          · intro h; cases h
          · intro h; exact absurd c2.2.2 ((h i (by omega) hlt).2 (by omega) c2.2.1)
      · have hgood : Good t s i := ⟨by omega, fun a1 a2 a3 => c2 ⟨by omega, a2, a3⟩⟩
        refine ⟨b, Ev.step (fun k => by rw [darningref4_MayTable.l0]) ?_, hiff.trans (good_from hgood).symm⟩
        rw [whose (by omega) h2, w64 (n := i + 1) (by omega)]
        refine ev_pos hlt (ev_pos h0 (ev_pos hlt (ev_neg c1 ?_)))
        refine ev_ite (fun c3 => ?_) (fun _ => hb)
        refine ev_ite (fun _ => hb) (fun c4 => ?_)
        rw [w64 (n := i - 1) (by omega)]
        exact ev_pos (by omega) (ev_pos (by omega) (ev_neg (fun c5 => c2 ⟨c3, c4, c5⟩) hb))
theorem mayt_ev {t : List Int} {s : Int} (ht : Tab t) (h2 : s ≤ 9223372036854775807) : ∃ b, Ev (fun k => darningref4_MayTable.f k t s) b ∧ (b = true ↔ MayP t s) := by
  unfold darningref4_MayTable.f
  by_cases h1 : 1 ≤ s
  · obtain ⟨b, hb, hiff⟩ := mayt_l0 ht h1 h2 t.length 0 (by omega) (by omega)
    exact ⟨b, ev_neg (by omega) hb, hiff.trans ⟨fun h => ⟨h1, fun j a c => h j a c⟩, fun h j a c => h.2 j a c⟩⟩
  · exact ⟨false, ev_pos (by omega) (Ev.now _), ⟨fun h => (by cases h), fun h => absurd h.1 h1⟩⟩
theorem mayt_yes {t : List Int} {s : Int} (ht : Tab t) (h2 : s ≤ 9223372036854775807) (h : MayP t s) : Ev (fun k => darningref4_MayTable.f k t s) true := by
  obtain ⟨b, hb, hi⟩ := mayt_ev ht h2
  rwa [hi.2 h] at hb
theorem mayt_no {t : List Int} {s : Int} (ht : Tab t) (h2 : s ≤ 9223372036854775807) (h : ¬ MayP t s) : Ev (fun k => darningref4_MayTable.f k t s) false := by
  obtain ⟨b, hb, hi⟩ := mayt_ev ht h2
  cases b with
  | true => exact absurd (hi.1 rfl) h
  | false => exact hb
theorem rd_set {t : List Int} {i : Nat} (v j : Int) (hi : i < t.length) : rd (t.set i v) j = if j.toNat = i then v else rd t j := by
  unfold rd
  rw [List.getD_eq_getElem?_getD, List.getElem?_set, List.getD_eq_getElem?_getD]
  by_cases h : i = j.toNat
  · rw [if_pos h, if_pos (by omega), if_pos h.symm]; rfl
  · rw [if_neg h, if_neg (fun e => h e.symm)]
theorem tab_set {t : List Int} {i : Nat} {v : Int} (ht : Tab t) (h0 : 0 ≤ v) (h1 : v ≤ 18446744073709551615) : Tab (t.set i v) := by
  refine ⟨by rw [List.length_set]; exact ht.1, fun j => ?_⟩
  by_cases hi : i < t.length
  · rw [rd_set v j hi]
    by_cases h : j.toNat = i
    · rw [if_pos h]; exact ⟨h0, h1⟩
    · rw [if_neg h]; exact ht.2 j
  · rw [List.set_eq_of_length_le (by omega)]; exact ht.2 j
theorem rd_rep (n : Nat) (j : Int) : rd (List.replicate n 0) j = 0 := by
  unfold rd
  rw [List.getD_eq_getElem?_getD, List.getElem?_replicate]
  by_cases h : j.toNat < n
  · rw [if_pos h]; rfl
  · rw [if_neg h]; rfl
theorem tab_rep {n : Nat} (h : n ≤ 1000) : Tab (List.replicate n 0) :=
  ⟨by rw [List.length_replicate]; exact h, fun j => by rw [rd_rep]; exact ⟨by decide, by decide⟩⟩
theorem place_ne {t : List Int} {s a b x y : Int} (ha : 0 ≤ a ∧ a < s) (hb : 0 ≤ b ∧ b < s) (hx : PlaceP t s a x) (hy : PlaceP t s b y) : x = y ↔ a = b := by
  constructor
  · intro h
    rcases hx with ⟨i, h0, h1, h2, h3, h4⟩ | ⟨h1, h2⟩
    · rcases hy with ⟨i', h0', h1', h2', h3', h4'⟩ | ⟨h1', h2'⟩
      · have e : i = i' := by omega
        subst e; omega
      · omega
    · rcases hy with ⟨i', h0', h1', h2', h3', h4'⟩ | ⟨h1', h2'⟩
      · omega
      · omega
  · intro h
    subst h
    exact place_one hx hy
theorem left_none {t : List Int} (h : ∀ j : Int, 0 ≤ j → j < t.length → rd t j ≠ 0) : leftS t = 0 := by
  unfold leftS
  have : t.count 0 = 0 := by
    rw [List.count_eq_zero]
    intro hm
    obtain ⟨i, hi, he⟩ := List.getElem_of_mem hm
    refine h i (by omega) (by omega) ?_
    unfold rd
    rw [List.getD_eq_getElem?_getD, Int.toNat_natCast, List.getElem?_eq_getElem hi, he]; rfl
  rw [this]; rfl
theorem left_set {t : List Int} {i : Nat} {v : Int} (hi : i < t.length) (h0 : rd t i = 0) (hv : v ≠ 0) : leftS (t.set i v) = leftS t - 1 := by
  unfold leftS
  have e : t[i] = 0 := by
    unfold rd at h0
    rw [List.getD_eq_getElem?_getD, Int.toNat_natCast, List.getElem?_eq_getElem hi] at h0
    exact h0
  have hm : 0 ∈ t := by rw [← e]; exact List.getElem_mem hi
  have hc : 0 < t.count 0 := List.count_pos_iff.2 hm
  rw [List.count_set hi, e, if_pos (by simp), if_neg (by simpa using hv)]
  omega
/-- Behind the first nought all are noughts. -/
theorem behind {t : List Int} {s r : Int} (hm : MayP t s) (h0 : 0 ≤ r) (hz : rd t r = 0) (d : Nat) : ∀ j : Int, j = r + d → j < t.length → rd t j = 0 := by
  induction d with
  | zero => intro j h1 h2; rw [show j = r from by omega]; exact hz
  | succ d ih =>
    intro j h1 h2
    have h3 := ih (j - 1) (by omega) (by omega)
    have h4 := (hm.2 j (by omega) h2).2 (by omega)
    by_cases h5 : rd t j = 0
    · exact h5
    · exact absurd h3 (h4 h5)
theorem may_set {t : List Int} {s r v : Int} (hm : MayP t s) (h0 : 0 ≤ r) (h1 : r < t.length) (_hz : rd t r = 0) (hn : ∀ j : Int, 0 ≤ j → j < r → rd t j ≠ 0) (hv : 0 < v) (hv2 : v ≤ s + 1) : MayP (t.set r.toNat v) s := by
  refine ⟨hm.1, fun j j0 j1 => ?_⟩
  rw [List.length_set] at j1
  have hg := hm.2 j j0 j1
  constructor
  · rw [rd_set _ _ (by omega)]
    by_cases c : j.toNat = r.toNat
    · rw [if_pos c]; exact hv2
    · rw [if_neg c]; exact hg.1
  · intro hj
    rw [rd_set _ _ (by omega), rd_set _ _ (by omega)]
    by_cases c2 : (j - 1).toNat = r.toNat
    · rw [if_pos c2]; intro _; omega
    · rw [if_neg c2]
      by_cases c : j.toNat = r.toNat
      · intro _; exact hn (j - 1) (by omega) (by omega)
      · rw [if_neg c]; exact hg.2 hj
theorem place_set {t : List Int} {s b q v : Int} {r : Nat} (hr : r < t.length) (hp : PlaceP t s b q) (hv : v ≠ b + 1) (hz : rd t r ≠ b + 1) : PlaceP (t.set r v) s b q := by
  have key : ∀ j : Int, 0 ≤ j → (rd (t.set r v) j = b + 1 ↔ rd t j = b + 1) := by
    intro j j0
    rw [rd_set _ _ hr]
    by_cases c : j.toNat = r
    · rw [if_pos c]
      have : j = (r : Int) := by omega
      rw [this]
      exact ⟨fun h => absurd h hv, fun h => absurd h hz⟩
    · rw [if_neg c]
  rcases hp with ⟨i, i0, i1, i2, i3, i4⟩ | ⟨i0, i1⟩
  · exact Or.inl ⟨i, i0, by rw [List.length_set]; exact i1, (key i i0).2 i2, fun j j0 j1 h => i3 j j0 (by rw [List.length_set] at j1; exact j1) ((key j (by omega)).1 h), i4⟩
  · exact Or.inr ⟨fun j j0 j1 h => i0 j j0 (by rw [List.length_set] at j1; exact j1) ((key j j0).1 h), i1⟩
theorem SpareNext : darninglaw6_SpareNext.Pure := by
  intro t a1 a2 a3 hl1 hl2 ht h1 h2 h3
  apply Ev.rounds
  unfold darninglaw6_SpareNext.f
  rw [modw a1 100 (by omega) (by omega), w64 (n := 1 + _) (by omega)]
  generalize hs : 1 + a1 % 18446744073709551616 % 100 = s
  have hs2 : 1 ≤ s ∧ s ≤ 100 := by omega
  have outp : Ev (fun k => darninglaw6_SpareNext.j0 k t s a2 a3 true) true := by
    refine Ev.step (fun k => by rw [darninglaw6_SpareNext.j0]) ?_
    exact ev_pos rfl (ev_bind awake_ev (Ev.now _))
  refine ev_ite (fun _ => outp) (fun c => ?_)
  have T : Tab t := tab_of ht (by omega)
  by_cases hm : MayP t s
  case neg => exact ev_bind (mayt_no T (by omega) hm) outp
  refine ev_bind (mayt_yes T (by omega) hm) ?_
  refine Ev.step (fun k => by rw [darninglaw6_SpareNext.j0]) ?_
  refine ev_neg (by decide) ?_
  rw [u64w s, show s % 18446744073709551616 = s from by omega, modw a2 s (by omega) (by omega), modw a3 s (by omega) (by omega)]
  have ha := Int.emod_lt_of_pos (a2 % 18446744073709551616) (b := s) (by omega)
  have ha0 := Int.emod_nonneg (a2 % 18446744073709551616) (b := s) (by omega)
  have hb := Int.emod_lt_of_pos (a3 % 18446744073709551616) (b := s) (by omega)
  have hb0 := Int.emod_nonneg (a3 % 18446744073709551616) (b := s) (by omega)
  generalize a2 % 18446744073709551616 % s = a at ha ha0 ⊢
  generalize a3 % 18446744073709551616 % s = b at hb hb0 ⊢
  refine ev_neg (by omega) ?_
  obtain ⟨r, hr, hp⟩ := next_ev T
  refine ev_bind hr ?_
  rcases hp with ⟨r0, r1, r2, r3⟩ | ⟨r0, r1⟩
  case inr => exact ev_pos (by omega) (ev_bind (left_ev T) (ev_pos (left_none r1) (ev_bind awake_ev (Ev.now _))))
  refine ev_neg (by omega) (ev_neg (by omega) (ev_bindc rfl ?_))
  refine ev_pos (by simp; omega) (ev_bindc rfl ?_)
  rw [List.nil_append, whose ha0 (by omega)]
  refine ev_pos r0 (ev_pos r1 (ev_bindc rfl ?_))
  refine ev_bindc rfl ?_
  refine ev_pos (by simp; omega) (ev_bindc rfl ?_)
  rw [List.nil_append]
  refine ev_bindc (dead_eq hs2.1 (by omega)) (ev_pos r1 (ev_bindc rfl ?_))
  have U : Tab (t.set r.toNat (a + 1)) := tab_set T (by omega) (by omega)
  have D : Tab (t.set r.toNat (s + 1)) := tab_set T (by omega) (by omega)
  have mu := may_set hm r0 r1 r2 r3 (v := a + 1) (by omega) (by omega)
  have md := may_set hm r0 r1 r2 r3 (v := s + 1) (by omega) (by omega)
  refine ev_bind (may_yes U (by omega) mu) (ev_pos rfl (ev_bind (may_yes D (by omega) md) (ev_pos rfl ?_)))
  have pu : PlaceP (t.set r.toNat (a + 1)) s a (s + r) := by
    refine Or.inl ⟨r, r0, by rw [List.length_set]; exact r1, by rw [rd_set _ _ (by omega), if_pos rfl], fun j j0 j1 => ?_, rfl⟩
    rw [List.length_set] at j1
    rw [rd_set _ _ (by omega), if_neg (by omega), behind hm r0 r2 (j - r).toNat j (by omega) j1]
    omega
  refine ev_bind (place_is U (by omega) ha0 ha pu) ?_
  rw [w64 (n := s + r) (by omega)]
  refine ev_pos rfl (ev_bind (left_ev U) (ev_bind (left_ev T) ?_))
  have hz : rd t (r.toNat : Int) = 0 := by rw [show (r.toNat : Int) = r from by omega]; exact r2
  have hls := left_set (t := t) (i := r.toNat) (v := a + 1) (by omega) hz (by omega)
  have hlr : 0 ≤ leftS t ∧ leftS t ≤ 100 := by
    unfold leftS
    have : t.count 0 ≤ t.length := List.count_le_length
    omega
  rw [w64 (n := leftS t - 1) (by omega)]
  refine ev_pos hls ?_
  obtain ⟨q, hq, pq⟩ := place_ev (t := t) (s := s) (a := b) T (by omega) hb0 hb
  have pd := place_set (v := s + 1) (r := r.toNat) (by omega) pq (by omega) (by omega)
  have fin : Ev (fun k => darninglaw6_SpareNext.j1 k true) true := Ev.step (fun k => by rw [darninglaw6_SpareNext.j1]) (Ev.now _)
  refine ev_ite (fun e => ?_) (fun e => ?_)
  · exact ev_bind (place_is D (by omega) hb0 hb pd) (ev_bind hq (ev_pos rfl (ev_bind awake_ev fin)))
  · have pb := place_set (v := a + 1) (r := r.toNat) (by omega) pq (by omega) (by omega)
    refine ev_bind (place_is U (by omega) hb0 hb pb) (ev_bind hq (ev_pos rfl ?_))
    exact ev_bind (place_is D (by omega) hb0 hb pd) (ev_pos rfl (ev_bind awake_ev fin))

end Go.Proofs.Ytjmlbkbjmeeplaa.Pure

namespace Go.Proofs.Ytjmlbkbjmeeplaa.PrintWords
open Go.ChangeShapes Go.WideShapes
/-- The printed words' lemma, under the name by which the printed row finds it. -/
theorem sized_ints {H : Type} {enc : TypeId × Value → H} {P : Program} {W : World} {base : Nat} {spare : Nat → Bool} {held : Bool} {t e : TypeId} {k : IntKind} {a : Option Addr} {len cap : Nat} {d : DataW H} {ps : List MemPlace} {ts : List TypeId} {ds : List (DataW H)} {j : Nat}
    (hsz : (DataW.weightsEach P ts ds).all (· ≤ reachBytes) = true) (ht : ts[j]? = some t) (hd : ds[j]? = some d) (hu : P.underlying t = some (.slice e)) (he : P.underlying e = some (.int k)) (hc : P.cellsOf e = 1) {B : Nat} (hB : P.bytesOf e = B)
    (h : DataW.Trod enc P W base spare held t (.slice a len cap) d ps) : len * B ≤ 140737488351232 :=
  Go.Proofs.YtjmlbkbjmeeplaaW.PrintWords.sized_ints hsz ht hd hu he hc hB h
end Go.Proofs.Ytjmlbkbjmeeplaa.PrintWords
