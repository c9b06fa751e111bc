/- FitBest: where a free block is large enough one is chosen, never a larger one where a smaller one is enough, nor one of a page written more often where one of the same size is in a page written less. No condition. -/
import Derived.Test.YtjmlbkbjmeeplabXFitBestx
namespace Go.Proofs.Ytjmlbkbjmeeplab.Pure
open Go.RowKit Go.Proofs.Ytjmlbkbjmeeplab.XFitBest Go.Proofs.YtjmlbkbjmeeplabW.PrintWords Go.Proofs.YtjmlbkbjmeeplabW.PrintLast

theorem wf64 {a : Int} (h : (Lit.int .i64 a).wf = true) : -9223372036854775808 ≤ a ∧ a ≤ 9223372036854775807 := by
  simp [Lit.wf, IntKind.min, IntKind.max, IntKind.bits, IntKind.signed] at h
  omega
theorem wfu64 {a : Int} (h : (Lit.int .u64 a).wf = true) : 0 ≤ a ∧ a ≤ 18446744073709551615 := by
  simp [Lit.wf, IntKind.min, IntKind.max, IntKind.bits, IntKind.signed] at h
  omega
theorem u64w (n : Int) : IntKind.u64.wrap n = n % 18446744073709551616 := by simp [IntKind.wrap, IntKind.bits, IntKind.signed]
theorem w64 {n : Int} (h : -9223372036854775808 ≤ n ∧ n ≤ 9223372036854775807) : wrap64 n = n := by unfold wrap64; omega
theorem tmodp {a b : Int} (h : 0 ≤ a) : Int.tmod a b = a % b := Int.tmod_eq_emod_of_nonneg h
theorem tdivp {a b : Int} (h : 0 ≤ a) : Int.tdiv a b = a / b := Int.tdiv_eq_ediv_of_nonneg h
theorem u64_wraps (n : Int) (h₀ : 0 ≤ n) (h₁ : n < 2 ^ 64) : IntKind.u64.wrap n = n := by rw [u64w]; omega
theorem u64_mask (i : Nat) (hi : i ≤ 64) (x : Int) (h₀ : 0 ≤ x) (h₁ : x < 2 ^ 64) : Go.bits .and .u64 x (2 ^ i - 1) = x % 2 ^ i :=
  bits_mask .u64 64 (by decide) u64_wraps i hi x h₀ h₁
theorem u64_and1 {x : Int} (h₀ : 0 ≤ x) (h₁ : x ≤ 18446744073709551615) : Go.bits .and .u64 x 1 = x % 2 := u64_mask 1 (by decide) x h₀ (by omega)
theorem u64_and3 {x : Int} (h₀ : 0 ≤ x) (h₁ : x ≤ 18446744073709551615) : Go.bits .and .u64 x 3 = x % 4 := u64_mask 2 (by decide) x h₀ (by omega)
theorem u64_or1 {x : Int} (h₀ : 0 ≤ x) (h₁ : x ≤ 18446744073709551615) (h : x % 2 = 0) : Go.bits .or .u64 x 1 = x + 1 :=
  bits_join .u64 64 (by decide) u64_wraps 1 x 1 h₀ h (by omega) (by decide) (by decide) (by decide)
theorem modw (a m : Int) (h : 0 < m) (hm : m ≤ 1000000) : wrap64 (Int.tmod (IntKind.u64.wrap a) m) = (a % 18446744073709551616) % m := by
  rw [u64w, tmodp (by omega), w64]
  have := Int.emod_nonneg (a % 18446744073709551616) (b := m) (by omega)
  have := Int.emod_lt_of_pos (a % 18446744073709551616) h
  omega
theorem ev_pos {α : Type} {c : Prop} [Decidable c] {a b : Nat → Option α} {r : α} (h : c) (k : Ev a r) : Ev (fun n => if c then a n else b n) r := by
  simp only [if_pos h]; exact k
theorem ev_neg {α : Type} {c : Prop} [Decidable c] {a b : Nat → Option α} {r : α} (h : ¬ c) (k : Ev b r) : Ev (fun n => if c then a n else b n) r := by
  simp only [if_neg h]; exact k
theorem ev_ite {α : Type} {c : Prop} [Decidable c] {a b : Nat → Option α} {r : α} (h1 : c → Ev a r) (h2 : ¬ c → Ev b r) : Ev (fun n => if c then a n else b n) r := by
  by_cases h : c
  · exact ev_pos h (h1 h)
  · exact ev_neg h (h2 h)
theorem ev_bindc {α β : Type} {o : Option α} {f : Nat → α → Option β} {a : α} {r : β} (h : o = some a) (k : Ev (fun n => f n a) r) : Ev (fun n => o.bind (f n)) r := by
  subst h; exact k
theorem ev_bind {α β : Type} {g : Nat → Option α} {f : Nat → α → Option β} {a : α} {r : β} (h : Ev g a) (k : Ev (fun n => f n a) r) : Ev (fun n => (g n).bind (f n)) r := Ev.bind h k
theorem ev_now {α : Type} {r s : α} (h : s = r) : Ev (fun _ => some s) r := by subst h; exact Ev.now _
theorem ev_some {α : Type} {o : Option α} {r : α} (h : o = some r) : Ev (fun _ => o) r := ⟨0, fun _ _ => h⟩
theorem ev_one {α : Type} {g : Nat → Option α} {r : α} (h : ∀ k, g (k + 1) = some r) : Ev g r := ⟨1, fun k hk => by obtain ⟨m, rfl⟩ : ∃ m, k = m + 1 := ⟨k - 1, by omega⟩; exact h m⟩
theorem ev_two {α : Type} {g : Nat → Option α} {r : α} (h : ∀ k, g (k + 2) = some r) : Ev g r := ⟨2, fun k hk => by obtain ⟨m, rfl⟩ : ∃ m, k = m + 2 := ⟨k - 2, by omega⟩; exact h m⟩
/-- The blocks that the statement speaks of. -/
def Wf (l : List S35) : Prop := l.length ≤ 1000 ∧ ∀ j : Int, -9223372036854775808 ≤ (rd_T35 l j).f0 ∧ (rd_T35 l j).f0 ≤ 9223372036854775807 ∧ -9223372036854775808 ≤ (rd_T35 l j).f1 ∧ (rd_T35 l j).f1 ≤ 9223372036854775807
theorem wf_of {l : List S35} (h : ∀ x ∈ l, wfT35 x) (hl : l.length ≤ 1000) : Wf l := by
  refine ⟨hl, fun j => ?_⟩
  unfold rd_T35
  rw [List.getD_eq_getElem?_getD]
  by_cases hj : j.toNat < l.length
  · rw [List.getElem?_eq_getElem hj]
    obtain ⟨h0, h1, _⟩ := h _ (List.getElem_mem hj)
    have a := wf64 h0
    have b := wf64 h1
    exact ⟨a.1, a.2, b.1, b.2⟩
  · rw [List.getElem?_eq_none (by omega)]
    exact ⟨by decide, by decide, by decide, by decide⟩
def OkB (l : List S35) (need j : Int) : Prop := (rd_T35 l j).f2 = false ∧ need ≤ (rd_T35 l j).f1
/-- The places of the smallest free blocks that are large enough, of the first i blocks. -/
structure FitsP (l : List S35) (need i : Int) (out : List Int) : Prop where
  ok : ∀ x ∈ out, 0 ≤ x ∧ x < i ∧ OkB l need x ∧ ∀ j : Int, 0 ≤ j → j < i → OkB l need j → (rd_T35 l x).f1 ≤ (rd_T35 l j).f1
  all : ∀ x : Int, 0 ≤ x → x < i → OkB l need x → (∀ j : Int, 0 ≤ j → j < i → OkB l need j → (rd_T35 l x).f1 ≤ (rd_T35 l j).f1) → x ∈ out
  none : out = [] → ∀ j : Int, 0 ≤ j → j < i → ¬ OkB l need j
  len : (out.length : Int) ≤ i
  up : out.Pairwise (· < ·)
theorem FitsP.zero (l : List S35) (need : Int) : FitsP l need 0 [] :=
  ⟨fun x h => absurd h (by simp), fun x h0 h1 => by omega, fun _ j h0 h1 => by omega, by simp, List.Pairwise.nil⟩
theorem FitsP.skip {l : List S35} {need i : Int} {out : List Int} (h : FitsP l need i out) (hn : ¬ OkB l need i) : FitsP l need (i + 1) out := by
  have hj : ∀ j : Int, j < i + 1 → OkB l need j → j < i := fun j h1 h2 => by
    by_cases e : j = i
    · subst e; exact absurd h2 hn
    · omega
  refine ⟨fun x hx => ?_, fun x h0 h1 h2 h3 => ?_, fun h0 j h1 h2 h3 => ?_, by have := h.len; omega, h.up⟩
  · obtain ⟨a, b, c, d⟩ := h.ok x hx
    exact ⟨a, by omega, c, fun j h0 h1 h2 => d j h0 (hj j h1 h2) h2⟩
  · exact h.all x h0 (hj x h1 h2) h2 (fun j h4 h5 h6 => h3 j h4 (by omega) h6)
  · exact h.none h0 j h1 (hj j h2 h3) h3
theorem FitsP.first {l : List S35} {need i : Int} (hi : 0 ≤ i) (h : FitsP l need i []) (ho : OkB l need i) : FitsP l need (i + 1) [i] := by
  have hj : ∀ j : Int, 0 ≤ j → j < i + 1 → OkB l need j → j = i := fun j h0 h1 h2 => by
    by_cases e : j = i
    · exact e
    · exact absurd h2 (h.none rfl j h0 (by omega))
  refine ⟨fun x hx => ?_, fun x h0 h1 h2 h3 => ?_, fun h0 => by simp at h0, by simp; omega, by simp⟩
  · have hx := List.mem_singleton.1 hx
    subst hx
    exact ⟨hi, by omega, ho, fun j h0 h1 h2 => by rw [hj j h0 h1 h2]; exact Int.le_refl _⟩
  · rw [hj x h0 h1 h2]; simp
theorem FitsP.head {l : List S35} {need i : Int} {a : Int} {out : List Int} (h : FitsP l need i (a :: out)) : 0 ≤ a ∧ a < i ∧ OkB l need a ∧ ∀ x ∈ a :: out, (rd_T35 l x).f1 = (rd_T35 l a).f1 := by
  obtain ⟨h0, h1, h2, h3⟩ := h.ok a (by simp)
  refine ⟨h0, h1, h2, fun x hx => ?_⟩
  obtain ⟨g0, g1, g2, g3⟩ := h.ok x hx
  have := h3 x g0 g1 g2
  have := g3 a h0 h1 h2
  omega
theorem FitsP.less {l : List S35} {need i : Int} {a : Int} {out : List Int} (h : FitsP l need i (a :: out)) (ho : OkB l need i) (hs : (rd_T35 l i).f1 < (rd_T35 l a).f1) : FitsP l need (i + 1) [i] := by
  obtain ⟨h0, h1, h2, h3⟩ := h.ok a (by simp)
  refine ⟨fun x hx => ?_, fun x g0 g1 g2 g3 => ?_, fun h0 => by simp at h0, by simp; omega, by simp⟩
  · have hx := List.mem_singleton.1 hx
    subst hx
    refine ⟨by omega, by omega, ho, fun j g0 g1 g2 => ?_⟩
    by_cases e : j = x
    · subst e; exact Int.le_refl _
    · have := h3 j g0 (by omega) g2; omega
  · by_cases e : x = i
    · subst e; simp
    · exfalso
      have := h3 x g0 (by omega) g2
      have := g3 i (by omega) (by omega) ho
      omega
theorem FitsP.same {l : List S35} {need i : Int} {a : Int} {out : List Int} (h : FitsP l need i (a :: out)) (ho : OkB l need i) (hs : (rd_T35 l i).f1 = (rd_T35 l a).f1) : FitsP l need (i + 1) ((a :: out) ++ [i]) := by
  obtain ⟨h0, h1, h2, h3⟩ := h.ok a (by simp)
  have hh := h.head.2.2.2
  refine ⟨fun x hx => ?_, fun x g0 g1 g2 g3 => ?_, fun h0 => by simp at h0, by have := h.len; simp at this ⊢; omega, ?_⟩
  · have key : ∀ j : Int, 0 ≤ j → j < i + 1 → OkB l need j → (rd_T35 l a).f1 ≤ (rd_T35 l j).f1 := fun j g0 g1 g2 => by
      by_cases e : j = i
      · subst e; omega
      · exact h3 j g0 (by omega) g2
    rcases List.mem_append.1 hx with hx | hx
    · obtain ⟨k0, k1, k2, _⟩ := h.ok x hx
      exact ⟨k0, by omega, k2, fun j g0 g1 g2 => by rw [hh x hx]; exact key j g0 g1 g2⟩
    · have hx := List.mem_singleton.1 hx
      subst hx
      exact ⟨by omega, by omega, ho, fun j g0 g1 g2 => by rw [hs]; exact key j g0 g1 g2⟩
  · by_cases e : x = i
    · subst e; simp
    · exact List.mem_append_left _ (h.all x g0 (by omega) g2 (fun j k0 k1 k2 => g3 j k0 (by omega) k2))
  · refine List.pairwise_append.2 ⟨h.up, by simp, fun x hx y hy => ?_⟩
    have hy := List.mem_singleton.1 hy
    subst hy
    exact (h.ok x hx).2.1
theorem FitsP.more {l : List S35} {need i : Int} {a : Int} {out : List Int} (h : FitsP l need i (a :: out)) (hs : (rd_T35 l a).f1 < (rd_T35 l i).f1) : FitsP l need (i + 1) (a :: out) := by
  obtain ⟨h0, h1, h2, h3⟩ := h.ok a (by simp)
  have hh := h.head.2.2.2
  refine ⟨fun x hx => ?_, fun x g0 g1 g2 g3 => ?_, fun h0 => by simp at h0, by have := h.len; omega, h.up⟩
  · obtain ⟨k0, k1, k2, k3⟩ := h.ok x hx
    refine ⟨k0, by omega, k2, fun j g0 g1 g2 => ?_⟩
    by_cases e : j = i
    · subst e; have := hh x hx; omega
    · exact k3 j g0 (by omega) g2
  · by_cases e : x = i
    · subst e
      have := g3 a h0 (by omega) h2
      omega
    · exact h.all x g0 (by omega) g2 (fun j k0 k1 k2 => g3 j k0 (by omega) k2)
theorem rd_head (a : Int) (out : List Int) : rd (a :: out) 0 = a := rfl
theorem fits_l0 {l : List S35} {need : Int} (hl : Wf l) (hn : 2 ≤ need) (d : Nat) : ∀ (i : Int) (out : List Int), 0 ≤ i → i + d = l.length → FitsP l need i out →
    ∃ r, Ev (fun k => fit_Fits.l0 k l need out l (l.length : Int) i) r ∧ FitsP l need l.length r := by
  have hlen := hl.1
  induction d with
  | zero =>
    intro i out h0 hd h
    have e : i = (l.length : Int) := by omega
    subst e
    exact ⟨out, Ev.step (fun k => by rw [fit_Fits.l0]) (ev_neg (by omega) (Ev.now _)), h⟩
  | succ d ih =>
    intro i out h0 hd h
    have hlt : i < (l.length : Int) := by omega
    have hol := h.len
    by_cases ho : OkB l need i
    · have enter : ∀ r, Ev (fun k => fit_Fits.j1 k l need out i l (l.length : Int) i false ((rd_T35 l i).f0) ((rd_T35 l i).f1) ((rd_T35 l i).f2)) r → Ev (fun k => fit_Fits.l0 k l need out l (l.length : Int) i) r := by
        intro r hr
        refine Ev.step (fun k => by rw [fit_Fits.l0]) ?_
        refine ev_pos hlt (ev_pos h0 (ev_pos hlt (ev_neg (by omega) (ev_neg (by rw [ho.1]; decide) ?_))))
        rw [decide_eq_false (by have := ho.2; omega)]
        exact hr
      cases out with
      | nil =>
        obtain ⟨r, hr, hp⟩ := ih (i + 1) [i] (by omega) (by omega) (h.first h0 ho)
        refine ⟨r, enter r ?_, hp⟩
        refine Ev.step (fun k => by rw [fit_Fits.j1]) (ev_neg (by decide) (ev_neg (by decide) ?_))
        refine Ev.step (fun k => by rw [fit_Fits.j2]) (ev_neg (by decide) (ev_pos (by decide) (ev_pos (by decide) ?_)))
        rw [w64 (n := i + 1) (by omega)]
        exact hr
      | cons a out =>
        obtain ⟨a0, a1, a2, a3⟩ := h.head
        have go : ∀ r (b : Bool), b = decide ((rd_T35 l i).f1 < (rd_T35 l a).f1) → Ev (fun k => fit_Fits.j2 k l need (a :: out) i l (l.length : Int) i b ((rd_T35 l i).f0) ((rd_T35 l i).f1) ((rd_T35 l i).f2)) r →
            Ev (fun k => fit_Fits.j1 k l need (a :: out) i l (l.length : Int) i false ((rd_T35 l i).f0) ((rd_T35 l i).f1) ((rd_T35 l i).f2)) r := by
          intro r b hb hr
          refine Ev.step (fun k => by rw [fit_Fits.j1]) (ev_neg (by decide) (ev_pos (by simp) (ev_pos (by simp) ?_)))
          rw [rd_head]
          refine ev_pos a0 (ev_pos (by omega) ?_)
          rw [← hb]
          exact hr
        by_cases c1 : (rd_T35 l i).f1 < (rd_T35 l a).f1
        · obtain ⟨r, hr, hp⟩ := ih (i + 1) [i] (by omega) (by omega) (h.less ho c1)
          refine ⟨r, enter r (go r true (by rw [decide_eq_true c1]) ?_), hp⟩
          refine Ev.step (fun k => by rw [fit_Fits.j2]) (ev_pos rfl (ev_pos (by decide) ?_))
          rw [w64 (n := i + 1) (by omega)]
          exact hr
        · by_cases c2 : (rd_T35 l i).f1 = (rd_T35 l a).f1
          · obtain ⟨r, hr, hp⟩ := ih (i + 1) ((a :: out) ++ [i]) (by omega) (by omega) (h.same ho c2)
            refine ⟨r, enter r (go r false (by rw [decide_eq_false c1]) ?_), hp⟩
            refine Ev.step (fun k => by rw [fit_Fits.j2]) (ev_neg (by decide) (ev_neg (by simp; omega) (ev_pos (by simp) ?_)))
            rw [rd_head, w64 (n := i + 1) (by omega)]
            refine ev_pos a0 (ev_pos (by omega) (ev_pos c2 (ev_pos (by omega) hr)))
          · obtain ⟨r, hr, hp⟩ := ih (i + 1) (a :: out) (by omega) (by omega) (h.more (by omega))
            refine ⟨r, enter r (go r false (by rw [decide_eq_false c1]) ?_), hp⟩
            refine Ev.step (fun k => by rw [fit_Fits.j2]) (ev_neg (by decide) (ev_neg (by simp; omega) (ev_pos (by simp) ?_)))
            rw [rd_head, w64 (n := i + 1) (by omega)]
            exact ev_pos a0 (ev_pos (by omega) (ev_neg c2 hr))
    · obtain ⟨r, hr, hp⟩ := ih (i + 1) out (by omega) (by omega) (h.skip ho)
      refine ⟨r, Ev.step (fun k => by rw [fit_Fits.l0]) ?_, hp⟩
      have j1 : Ev (fun k => fit_Fits.j1 k l need out i l (l.length : Int) i true ((rd_T35 l i).f0) ((rd_T35 l i).f1) ((rd_T35 l i).f2)) r := by
        refine Ev.step (fun k => by rw [fit_Fits.j1]) (ev_pos rfl ?_)
        rw [w64 (n := i + 1) (by omega)]
        exact hr
      refine ev_pos hlt (ev_pos h0 (ev_pos hlt (ev_neg (by omega) ?_)))
      refine ev_ite (fun _ => j1) (fun c => ?_)
      rw [decide_eq_true (show (rd_T35 l i).f1 < need from by
        have : ¬ (need ≤ (rd_T35 l i).f1) := fun hh => ho ⟨by simpa using c, hh⟩
        omega)]
      exact j1
theorem fits_ev {l : List S35} {need : Int} (hl : Wf l) (hn : 2 ≤ need) : ∃ r, Ev (fun k => fit_Fits.f k l need) r ∧ FitsP l need l.length r :=
  fits_l0 hl hn l.length 0 [] (by omega) (by omega) (FitsP.zero l need)
/-- How often the page of a block was written. -/
def cntS (at_ : Int) (counts : List Int) : Int := if at_ < 0 ∨ (counts.length : Int) ≤ at_ / 32 then 0 else rd counts (at_ / 32)
theorem count_eq {a b : Int} {c : Bool} {counts : List Int} (h1 : a ≤ 9223372036854775807) : fit_count.f a b c counts = some (cntS a counts) := by
  unfold fit_count.f cntS
  by_cases h : a < 0
  · rw [if_pos h, if_pos (Or.inl h)]
  · rw [if_neg h, tdivp (by omega), w64 (n := a / 32) (by omega)]
    by_cases h2 : a / 32 ≥ (counts.length : Int)
    · rw [if_pos h2, if_pos (Or.inr h2)]
    · rw [if_neg h2, if_pos (by omega), if_pos (by omega), if_neg (by omega)]
/-- One of the places, at which the page was written least often, and of those the lowest block. -/
def Leq (l : List S35) (counts : List Int) (x y : Int) : Prop :=
  cntS (rd_T35 l x).f0 counts < cntS (rd_T35 l y).f0 counts ∨ (cntS (rd_T35 l x).f0 counts = cntS (rd_T35 l y).f0 counts ∧ (rd_T35 l x).f0 ≤ (rd_T35 l y).f0)
def ChooseP (l : List S35) (counts out : List Int) (c : Int) : Prop := (out = [] ∧ c = -1) ∨ (c ∈ out ∧ ∀ y ∈ out, Leq l counts c y)
theorem rd_mid (pre suf : List Int) (x : Int) : rd (pre ++ x :: suf) (pre.length : Int) = x := by
  unfold rd
  rw [List.getD_eq_getElem?_getD, Int.toNat_natCast, List.getElem?_append_right (by omega)]
  simp
theorem choose_l0 {l : List S35} {counts : List Int} (hl : Wf l) (suf : List Int) : ∀ (pre : List Int) (best : Int), (∀ x ∈ pre ++ suf, 0 ≤ x ∧ x < l.length) → (pre ++ suf).length ≤ 1000 → ChooseP l counts pre best →
    ∃ r, Ev (fun k => fit_Choose.l0 k l counts best (pre ++ suf) ((pre ++ suf).length : Int) (pre.length : Int)) r ∧ ChooseP l counts (pre ++ suf) r := by
  induction suf with
  | nil =>
    intro pre best hr hlen h
    refine ⟨best, Ev.step (fun k => by rw [fit_Choose.l0]) (ev_neg (by simp) (Ev.now _)), by simpa using h⟩
  | cons x suf ih =>
    intro pre best hr hlen h
    have hx := hr x (by simp)
    have e : pre ++ x :: suf = (pre ++ [x]) ++ suf := by simp
    have hlen2 : ((pre ++ [x]).length : Int) = (pre.length : Int) + 1 := by simp
    have hlt : (pre.length : Int) < ((pre ++ x :: suf).length : Int) := by simp; omega
    have next : ∀ b, ChooseP l counts (pre ++ [x]) b → ∃ r, Ev (fun k => fit_Choose.l0 k l counts b (pre ++ x :: suf) ((pre ++ x :: suf).length : Int) ((pre.length : Int) + 1)) r ∧ ChooseP l counts (pre ++ x :: suf) r := by
      intro b hb
      have := ih (pre ++ [x]) b (by rw [← e]; exact hr) (by rw [← e]; exact hlen) hb
      rw [hlen2, ← e] at this
      exact this
    have w1 : wrap64 ((pre.length : Int) + 1) = (pre.length : Int) + 1 := w64 (by simp at hlen; omega)
    rcases h with ⟨rfl, rfl⟩ | ⟨hm, hall⟩
    · obtain ⟨r, h1, h2⟩ := next x (Or.inr ⟨by simp, fun y hy => by simp at hy; subst hy; exact Or.inr ⟨rfl, Int.le_refl _⟩⟩)
      refine ⟨r, Ev.step (fun k => by rw [fit_Choose.l0]) ?_, h2⟩
      rw [rd_mid, w1]
      exact ev_pos hlt (ev_pos (by omega) (ev_pos hlt (ev_pos (by omega) h1)))
    · have hb := hr best (by simp [hm])
      have fx := hl.2 x
      have fb := hl.2 best
      have cx := count_eq (b := (rd_T35 l x).f1) (c := (rd_T35 l x).f2) (counts := counts) fx.2.1
      have cb := count_eq (b := (rd_T35 l best).f1) (c := (rd_T35 l best).f2) (counts := counts) fb.2.1
      by_cases c1 : cntS (rd_T35 l x).f0 counts < cntS (rd_T35 l best).f0 counts ∨ (cntS (rd_T35 l x).f0 counts = cntS (rd_T35 l best).f0 counts ∧ (rd_T35 l x).f0 < (rd_T35 l best).f0)
      · obtain ⟨r, h1, h2⟩ := next x (Or.inr ⟨by simp, fun y hy => by
          rcases List.mem_append.1 hy with hy | hy
          · have := hall y hy
            unfold Leq at this ⊢
            omega
          · simp at hy; subst hy; exact Or.inr ⟨rfl, Int.le_refl _⟩⟩)
        refine ⟨r, Ev.step (fun k => by rw [fit_Choose.l0]) ?_, h2⟩
        rw [rd_mid, w1]
        refine ev_pos hlt (ev_pos (by omega) (ev_pos hlt (ev_neg (by omega) (ev_pos hx.1 (ev_pos hx.2 (ev_bindc cx (ev_pos hb.1 (ev_pos hb.2 (ev_bindc cb ?_)))))))))
        rcases c1 with c1 | c1
        · exact ev_pos c1 h1
        · exact ev_neg (by omega) (ev_pos c1.1 (ev_pos c1.2 h1))
      · obtain ⟨r, h1, h2⟩ := next best (Or.inr ⟨by simp [hm], fun y hy => by
          rcases List.mem_append.1 hy with hy | hy
          · exact hall y hy
          · simp at hy; subst hy; unfold Leq; omega⟩)
        refine ⟨r, Ev.step (fun k => by rw [fit_Choose.l0]) ?_, h2⟩
        rw [rd_mid, w1]
        refine ev_pos hlt (ev_pos (by omega) (ev_pos hlt (ev_neg (by omega) (ev_pos hx.1 (ev_pos hx.2 (ev_bindc cx (ev_pos hb.1 (ev_pos hb.2 (ev_bindc cb ?_)))))))))
        refine ev_neg (by omega) ?_
        refine ev_ite (fun c2 => ev_neg (by omega) h1) (fun _ => h1)
theorem choose_ev {l : List S35} {need : Int} {counts : List Int} (hl : Wf l) (hn : 2 ≤ need) : ∃ out r, Ev (fun k => fit_Fits.f k l need) out ∧ FitsP l need l.length out ∧ Ev (fun k => fit_Choose.f k l need counts) r ∧ ChooseP l counts out r := by
  obtain ⟨out, h1, h2⟩ := fits_ev hl hn
  have hlen := hl.1
  obtain ⟨r, h3, h4⟩ := choose_l0 (counts := counts) hl out [] (-1) (fun x hx => by
    have := h2.ok x (by simpa using hx); exact ⟨this.1, this.2.1⟩) (by have := h2.len; simp; omega) (Or.inl ⟨rfl, rfl⟩)
  refine ⟨out, r, h1, h2, ?_, h4⟩
  unfold fit_Choose.f
  exact ev_bind h1 h3
/-- What the chosen place is. -/
theorem chosen {l : List S35} {need : Int} {counts out : List Int} {c : Int} (hf : FitsP l need l.length out) (hc : ChooseP l counts out c) :
    (c = -1 ∧ out = [] ∧ ∀ j : Int, 0 ≤ j → j < l.length → ¬ OkB l need j) ∨
    (0 ≤ c ∧ c < l.length ∧ OkB l need c ∧ c ∈ out ∧ (∀ y ∈ out, Leq l counts c y) ∧ ∀ j : Int, 0 ≤ j → j < l.length → OkB l need j → (rd_T35 l c).f1 ≤ (rd_T35 l j).f1) := by
  rcases hc with ⟨h1, h2⟩ | ⟨h1, h2⟩
  · exact Or.inl ⟨h2, h1, hf.none h1⟩
  · obtain ⟨a, b, c, d⟩ := hf.ok _ h1
    exact Or.inr ⟨a, b, c, h1, h2, d⟩
theorem awake_ev : Ev (fun k => darninglaw15_awake.f k) true := Ev.of (fun k => darninglaw15_awake.mono k) (k := 20) (by decide +kernel)
theorem page_eq {a : Int} {counts : List Int} (h1 : a ≤ 9223372036854775807) : darninglaw15_page.f a counts = some (cntS a counts) := by
  unfold darninglaw15_page.f cntS
  by_cases h : a < 0
  · rw [if_pos h, if_pos (Or.inl h)]
  · rw [if_neg h, tdivp (by omega), w64 (n := a / 32) (by omega)]
    by_cases h2 : a / 32 ≥ (counts.length : Int)
    · rw [if_pos h2, if_pos (Or.inr h2)]
    · rw [if_neg h2, if_pos (by omega), if_pos (by omega), if_neg (by omega)]
theorem best_l2 {l : List S35} {need c : Int} (hl : Wf l) (c0 : 0 ≤ c) (c1 : c < l.length) (hmin : ∀ j : Int, 0 ≤ j → j < l.length → OkB l need j → (rd_T35 l c).f1 ≤ (rd_T35 l j).f1) (d : Nat) : ∀ i : Int, 0 ≤ i → i + d = l.length →
    Ev (fun k => darninglaw15_FitBest.l2 k l need c true l (l.length : Int) i) true := by
  have hlen := hl.1
  induction d with
  | zero =>
    intro i h0 hd
    exact Ev.step (fun k => by rw [darninglaw15_FitBest.l2]) (ev_neg (by omega) (ev_pos rfl (ev_bind awake_ev (Ev.now _))))
  | succ d ih =>
    intro i h0 hd
    have h := ih (i + 1) (by omega) (by omega)
    refine Ev.step (fun k => by rw [darninglaw15_FitBest.l2]) ?_
    rw [w64 (n := i + 1) (by omega)]
    refine ev_pos (by omega) (ev_pos h0 (ev_pos (by omega) ?_))
    refine ev_ite (fun _ => h) (fun hu => ev_ite (fun hs => ?_) (fun _ => h))
    refine ev_pos c0 (ev_pos c1 (ev_neg ?_ h))
    have := hmin i h0 (by omega) ⟨by simpa using hu, hs⟩
    omega
theorem best_l1 {l : List S35} {need c : Int} {counts : List Int} (hl : Wf l) (c0 : 0 ≤ c) (c1 : c < l.length) (hmin : ∀ j : Int, 0 ≤ j → j < l.length → OkB l need j → (rd_T35 l c).f1 ≤ (rd_T35 l j).f1) (suf : List Int) : ∀ (pre : List Int) (inn : Bool),
    (∀ x ∈ pre ++ suf, 0 ≤ x ∧ x < l.length ∧ (rd_T35 l x).f1 = (rd_T35 l c).f1 ∧ Leq l counts c x) → (pre ++ suf).length ≤ 1000 → (inn = true ↔ c ∈ pre) → c ∈ pre ++ suf →
    Ev (fun k => darninglaw15_FitBest.l1 k l need counts c inn (pre ++ suf) ((pre ++ suf).length : Int) (pre.length : Int)) true := by
  induction suf with
  | nil =>
    intro pre inn hr hlen hi hc
    have : inn = true := hi.2 (by simpa using hc)
    subst this
    exact Ev.step (fun k => by rw [darninglaw15_FitBest.l1]) (ev_neg (by simp) (best_l2 hl c0 c1 hmin l.length 0 (by omega) (by omega)))
  | cons x suf ih =>
    intro pre inn hr hlen hi hc
    obtain ⟨x0, x1, x2, x3⟩ := hr x (by simp)
    have e : pre ++ x :: suf = (pre ++ [x]) ++ suf := by simp
    have hlen2 : ((pre ++ [x]).length : Int) = (pre.length : Int) + 1 := by simp
    have hlt : (pre.length : Int) < ((pre ++ x :: suf).length : Int) := by simp; omega
    have w1 : wrap64 ((pre.length : Int) + 1) = (pre.length : Int) + 1 := w64 (by simp at hlen; omega)
    have next : ∀ b : Bool, (b = true ↔ c ∈ pre ++ [x]) → Ev (fun k => darninglaw15_FitBest.l1 k l need counts c b (pre ++ x :: suf) ((pre ++ x :: suf).length : Int) ((pre.length : Int) + 1)) true := by
      intro b hb
      have := ih (pre ++ [x]) b (by rw [← e]; exact hr) (by rw [← e]; exact hlen) hb (by rw [← e]; exact hc)
      rw [hlen2, ← e] at this
      exact this
    have fx := hl.2 x
    have fc := hl.2 c
    have j5 : ∀ b : Bool, (b = true ↔ c ∈ pre ++ [x]) → Ev (fun k => darninglaw15_FitBest.j5 k l need counts c b x (pre ++ x :: suf) ((pre ++ x :: suf).length : Int) (pre.length : Int)) true := by
      intro b hb
      refine Ev.step (fun k => by rw [darninglaw15_FitBest.j5]) ?_
      refine ev_pos x0 (ev_pos x1 (ev_bindc (page_eq fx.2.1) (ev_pos c0 (ev_pos c1 (ev_bindc (page_eq fc.2.1) (ev_neg ?_ ?_))))))
      · unfold Leq at x3; omega
      · rw [w1]; exact next b hb
    refine Ev.step (fun k => by rw [darninglaw15_FitBest.l1]) ?_
    rw [rd_mid]
    refine ev_pos hlt (ev_pos (by omega) (ev_pos hlt (ev_neg (by omega) (ev_neg (by omega) (ev_pos x0 (ev_pos x1 (ev_pos c0 (ev_pos c1 ?_))))))))
    rw [show ((rd_T35 l x).f1 != (rd_T35 l c).f1) = false from by simp [x2]]
    refine Ev.step (fun k => by rw [darninglaw15_FitBest.j4]) (ev_neg (by decide) ?_)
    refine ev_ite (fun h => j5 true ⟨fun _ => List.mem_append_left _ (hi.1 h), fun _ => rfl⟩) (fun h => j5 _ ?_)
    have hn : c ∉ pre := fun hm => h (hi.2 hm)
    rw [beq_iff_eq]
    constructor
    · intro hx; rw [hx]; simp
    · intro hx
      rcases List.mem_append.1 hx with hx | hx
      · exact absurd hx hn
      · exact (List.mem_singleton.1 hx).symm
theorem best_l0 {l : List S35} {need c : Int} {counts out : List Int} (hl : Wf l) (hf : FitsP l need l.length out) (ef : Ev (fun k => fit_Fits.f k l need) out) (hc : ChooseP l counts out c) (d : Nat) : ∀ (i : Int) (some_ : Bool), 0 ≤ i → i + d = l.length →
    (some_ = true ↔ ∃ j : Int, 0 ≤ j ∧ j < i ∧ OkB l need j) → Ev (fun k => darninglaw15_FitBest.l0 k l need counts c some_ l (l.length : Int) i) true := by
  have hlen := hl.1
  induction d with
  | zero =>
    intro i sm h0 hd hs
    have e : i = (l.length : Int) := by omega
    subst e
    refine Ev.step (fun k => by rw [darninglaw15_FitBest.l0]) (ev_neg (by omega) ?_)
    rcases chosen hf hc with ⟨h1, h2, h3⟩ | ⟨c0, c1, c2, c3, c4, c5⟩
    · have hsm : sm ≠ true := fun h => by obtain ⟨j, a, b, ok⟩ := hs.1 h; exact h3 j a b ok
      refine ev_neg hsm (ev_pos h1 (ev_bind ef (ev_pos (by rw [h2]; rfl) (ev_bind awake_ev (Ev.now _)))))
    · refine ev_pos (hs.2 ⟨c, c0, c1, c2⟩) ?_
      refine ev_neg (by omega) (ev_neg (by omega) (ev_pos c0 (ev_pos c1 (ev_neg (by rw [c2.1]; decide) ?_))))
      rw [decide_eq_false (by have := c2.2; omega)]
      refine Ev.step (fun k => by rw [darninglaw15_FitBest.j2]) (ev_neg (by decide) (ev_bind ef ?_))
      refine best_l1 hl c0 c1 c5 out [] false (fun x hx => ?_) ?_ (by simp) (by simpa using c3)
      · have hx : x ∈ out := by simpa using hx
        obtain ⟨a, b, ok, hm⟩ := hf.ok x hx
        have := hm c c0 c1 c2
        have := c5 x a b ok
        exact ⟨a, b, by omega, c4 x hx⟩
      · have := hf.len; simp; omega
  | succ d ih =>
    intro i sm h0 hd hs
    have hlt : i < (l.length : Int) := by omega
    refine Ev.step (fun k => by rw [darninglaw15_FitBest.l0]) (ev_pos hlt (ev_pos h0 (ev_pos hlt ?_)))
    rw [w64 (n := i + 1) (by omega)]
    have next : ∀ b : Bool, (b = true ↔ sm = true ∨ OkB l need i) → Ev (fun k => darninglaw15_FitBest.l0 k l need counts c b l (l.length : Int) (i + 1)) true := by
      intro b hb
      refine ih (i + 1) b (by omega) (by omega) (hb.trans ⟨fun h => ?_, fun h => ?_⟩)
      · rcases h with h | h
        · obtain ⟨j, a1, a2, a3⟩ := hs.1 h
          exact ⟨j, a1, by omega, a3⟩
        · exact ⟨i, h0, by omega, h⟩
      · obtain ⟨j, a1, a2, a3⟩ := h
        by_cases e : j = i
        · subst e; exact Or.inr a3
        · exact Or.inl (hs.2 ⟨j, a1, by omega, a3⟩)
    refine ev_ite (fun h => next true ⟨fun _ => Or.inl h, fun _ => rfl⟩) (fun h => ?_)
    refine ev_ite (fun hu => next false ⟨fun hh => (by cases hh), fun hh => ?_⟩) (fun hu => next _ ?_)
    · rcases hh with hh | hh
      · exact absurd hh h
      · exact absurd hu (by rw [hh.1]; decide)
    · rw [decide_eq_true_iff]
      exact ⟨fun hh => Or.inr ⟨by simpa using hu, hh⟩, fun hh => by
        rcases hh with hh | hh
        · exact absurd hh h
        · exact hh.2⟩
theorem FitBest : darninglaw15_FitBest.Pure := by
  intro l a counts hm hy hw h1 hm2 hy2 hw2
  apply Ev.rounds
  unfold darninglaw15_FitBest.f
  have out : Ev (fun k => darninglaw15_FitBest.j0 k l a counts true) true :=
    Ev.step (fun k => by rw [darninglaw15_FitBest.j0]) (ev_pos rfl (ev_bind awake_ev (Ev.now _)))
  refine ev_ite (fun _ => out) (fun hc => ?_)
  by_cases hc2 : (counts.length : Int) > 100
  · rw [decide_eq_true hc2]; exact out
  rw [decide_eq_false hc2]
  refine Ev.step (fun k => by rw [darninglaw15_FitBest.j0]) (ev_neg (by decide) ?_)
  rw [modw a 60 (by omega) (by omega), w64 (n := 2 + _) (by omega)]
  have W : Wf l := wf_of hw (by omega)
  obtain ⟨o, c, e1, f, e2, p⟩ := choose_ev (need := 2 + a % 18446744073709551616 % 60) (counts := counts) W (by omega)
  refine ev_bind e2 ?_
  exact best_l0 W f e1 p l.length 0 false (by omega) (by omega) ⟨fun h => (by cases h), fun ⟨j, h0, h1, _⟩ => by omega⟩

end Go.Proofs.Ytjmlbkbjmeeplab.Pure
