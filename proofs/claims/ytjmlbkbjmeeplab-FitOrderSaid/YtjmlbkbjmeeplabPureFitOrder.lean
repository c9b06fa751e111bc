/- FitOrder: where all counts are the same the lowest place is chosen; with one count more in its page alone it is the lowest one of another page, if there is one of the size in another page. No condition. -/
import Derived.Test.YtjmlbkbjmeeplabXFitOrderx
namespace Go.Proofs.Ytjmlbkbjmeeplab.Pure
open Go.RowKit Go.Proofs.Ytjmlbkbjmeeplab.XFitOrder Go.Proofs.YtjmlbkbjmeeplabW.PrintWords Go.Proofs.YtjmlbkbjmeeplabW.PrintLast

theorem wf64 {a : Int} (h : (Lit.int .i64 a).wf = true) : -9223372036854775808 ≤ a ∧ a ≤ 9223372036854775807 := by
  simp [Lit.wf, IntKind.min, IntKind.max, IntKind.bits, IntKind.signed] at h
  omega
theorem wfu64 {a : Int} (h : (Lit.int .u64 a).wf = true) : 0 ≤ a ∧ a ≤ 18446744073709551615 := by
  simp [Lit.wf, IntKind.min, IntKind.max, IntKind.bits, IntKind.signed] at h
  omega
theorem u64w (n : Int) : IntKind.u64.wrap n = n % 18446744073709551616 := by simp [IntKind.wrap, IntKind.bits, IntKind.signed]
theorem w64 {n : Int} (h : -9223372036854775808 ≤ n ∧ n ≤ 9223372036854775807) : wrap64 n = n := by unfold wrap64; omega
theorem tmodp {a b : Int} (h : 0 ≤ a) : Int.tmod a b = a % b := Int.tmod_eq_emod_of_nonneg h
theorem tdivp {a b : Int} (h : 0 ≤ a) : Int.tdiv a b = a / b := Int.tdiv_eq_ediv_of_nonneg h
theorem u64_wraps (n : Int) (h₀ : 0 ≤ n) (h₁ : n < 2 ^ 64) : IntKind.u64.wrap n = n := by rw [u64w]; omega
theorem u64_mask (i : Nat) (hi : i ≤ 64) (x : Int) (h₀ : 0 ≤ x) (h₁ : x < 2 ^ 64) : Go.bits .and .u64 x (2 ^ i - 1) = x % 2 ^ i :=
  bits_mask .u64 64 (by decide) u64_wraps i hi x h₀ h₁
theorem u64_and1 {x : Int} (h₀ : 0 ≤ x) (h₁ : x ≤ 18446744073709551615) : Go.bits .and .u64 x 1 = x % 2 := u64_mask 1 (by decide) x h₀ (by omega)
theorem u64_and3 {x : Int} (h₀ : 0 ≤ x) (h₁ : x ≤ 18446744073709551615) : Go.bits .and .u64 x 3 = x % 4 := u64_mask 2 (by decide) x h₀ (by omega)
theorem u64_or1 {x : Int} (h₀ : 0 ≤ x) (h₁ : x ≤ 18446744073709551615) (h : x % 2 = 0) : Go.bits .or .u64 x 1 = x + 1 :=
  bits_join .u64 64 (by decide) u64_wraps 1 x 1 h₀ h (by omega) (by decide) (by decide) (by decide)
theorem modw (a m : Int) (h : 0 < m) (hm : m ≤ 1000000) : wrap64 (Int.tmod (IntKind.u64.wrap a) m) = (a % 18446744073709551616) % m := by
  rw [u64w, tmodp (by omega), w64]
  have := Int.emod_nonneg (a % 18446744073709551616) (b := m) (by omega)
  have := Int.emod_lt_of_pos (a % 18446744073709551616) h
  omega
theorem ev_pos {α : Type} {c : Prop} [Decidable c] {a b : Nat → Option α} {r : α} (h : c) (k : Ev a r) : Ev (fun n => if c then a n else b n) r := by
  simp only [if_pos h]; exact k
theorem ev_neg {α : Type} {c : Prop} [Decidable c] {a b : Nat → Option α} {r : α} (h : ¬ c) (k : Ev b r) : Ev (fun n => if c then a n else b n) r := by
  simp only [if_neg h]; exact k
theorem ev_ite {α : Type} {c : Prop} [Decidable c] {a b : Nat → Option α} {r : α} (h1 : c → Ev a r) (h2 : ¬ c → Ev b r) : Ev (fun n => if c then a n else b n) r := by
  by_cases h : c
  · exact ev_pos h (h1 h)
  · exact ev_neg h (h2 h)
theorem ev_bindc {α β : Type} {o : Option α} {f : Nat → α → Option β} {a : α} {r : β} (h : o = some a) (k : Ev (fun n => f n a) r) : Ev (fun n => o.bind (f n)) r := by
  subst h; exact k
theorem ev_bind {α β : Type} {g : Nat → Option α} {f : Nat → α → Option β} {a : α} {r : β} (h : Ev g a) (k : Ev (fun n => f n a) r) : Ev (fun n => (g n).bind (f n)) r := Ev.bind h k
theorem ev_now {α : Type} {r s : α} (h : s = r) : Ev (fun _ => some s) r := by subst h; exact Ev.now _
theorem ev_some {α : Type} {o : Option α} {r : α} (h : o = some r) : Ev (fun _ => o) r := ⟨0, fun _ _ => h⟩
theorem ev_one {α : Type} {g : Nat → Option α} {r : α} (h : ∀ k, g (k + 1) = some r) : Ev g r := ⟨1, fun k hk => by obtain ⟨m, rfl⟩ : ∃ m, k = m + 1 := ⟨k - 1, by omega⟩; exact h m⟩
theorem ev_two {α : Type} {g : Nat → Option α} {r : α} (h : ∀ k, g (k + 2) = some r) : Ev g r := ⟨2, fun k hk => by obtain ⟨m, rfl⟩ : ∃ m, k = m + 2 := ⟨k - 2, by omega⟩; exact h m⟩
theorem rdt_mid (pre suf : List S35) (x : S35) : rd_T35 (pre ++ x :: suf) (pre.length : Int) = x := by
  unfold rd_T35
  rw [List.getD_eq_getElem?_getD, Int.toNat_natCast, List.getElem?_append_right (by omega)]
  simp
theorem rdt_last (pre suf : List S35) (x : S35) : rd_T35 ((pre ++ [x]) ++ suf) (((pre ++ [x]).length : Int) - 1) = x := by
  have e : (((pre ++ [x]).length : Int) - 1) = (pre.length : Int) := by simp
  rw [e, List.append_assoc]
  exact rdt_mid pre suf x
theorem rdt_get {l : List S35} {j : Int} (h0 : 0 ≤ j) (h1 : j < l.length) : ∃ h : j.toNat < l.length, rd_T35 l j = l[j.toNat]'h := by
  refine ⟨by omega, ?_⟩
  unfold rd_T35
  rw [List.getD_eq_getElem?_getD, List.getElem?_eq_getElem (by omega)]
  rfl
theorem rdt_mem {l : List S35} {j : Int} (h0 : 0 ≤ j) (h1 : j < l.length) : rd_T35 l j ∈ l := by
  obtain ⟨h, e⟩ := rdt_get h0 h1
  rw [e]
  exact List.getElem_mem h
/-- The blocks that the statement speaks of. -/
def Wf (l : List S35) : Prop := l.length ≤ 1000 ∧ ∀ j : Int, -9223372036854775808 ≤ (rd_T35 l j).f0 ∧ (rd_T35 l j).f0 ≤ 9223372036854775807 ∧ -9223372036854775808 ≤ (rd_T35 l j).f1 ∧ (rd_T35 l j).f1 ≤ 9223372036854775807
theorem wf_of {l : List S35} (h : ∀ x ∈ l, wfT35 x) (hl : l.length ≤ 1000) : Wf l := by
  refine ⟨hl, fun j => ?_⟩
  unfold rd_T35
  rw [List.getD_eq_getElem?_getD]
  by_cases hj : j.toNat < l.length
  · rw [List.getElem?_eq_getElem hj]
    obtain ⟨h0, h1, _⟩ := h _ (List.getElem_mem hj)
    have a := wf64 h0
    have b := wf64 h1
    exact ⟨a.1, a.2, b.1, b.2⟩
  · rw [List.getElem?_eq_none (by omega)]
    exact ⟨by decide, by decide, by decide, by decide⟩
def OkB (l : List S35) (need j : Int) : Prop := (rd_T35 l j).f2 = false ∧ need ≤ (rd_T35 l j).f1
/-- The places of the smallest free blocks that are large enough, of the first i blocks. -/
structure FitsP (l : List S35) (need i : Int) (out : List Int) : Prop where
  ok : ∀ x ∈ out, 0 ≤ x ∧ x < i ∧ OkB l need x ∧ ∀ j : Int, 0 ≤ j → j < i → OkB l need j → (rd_T35 l x).f1 ≤ (rd_T35 l j).f1
  all : ∀ x : Int, 0 ≤ x → x < i → OkB l need x → (∀ j : Int, 0 ≤ j → j < i → OkB l need j → (rd_T35 l x).f1 ≤ (rd_T35 l j).f1) → x ∈ out
  none : out = [] → ∀ j : Int, 0 ≤ j → j < i → ¬ OkB l need j
  len : (out.length : Int) ≤ i
  up : out.Pairwise (· < ·)
theorem FitsP.zero (l : List S35) (need : Int) : FitsP l need 0 [] :=
  ⟨fun x h => absurd h (by simp), fun x h0 h1 => by omega, fun _ j h0 h1 => by omega, by simp, List.Pairwise.nil⟩
theorem FitsP.skip {l : List S35} {need i : Int} {out : List Int} (h : FitsP l need i out) (hn : ¬ OkB l need i) : FitsP l need (i + 1) out := by
  have hj : ∀ j : Int, j < i + 1 → OkB l need j → j < i := fun j h1 h2 => by
    by_cases e : j = i
    · subst e; exact absurd h2 hn
    · omega
  refine ⟨fun x hx => ?_, fun x h0 h1 h2 h3 => ?_, fun h0 j h1 h2 h3 => ?_, by have := h.len; omega, h.up⟩
  · obtain ⟨a, b, c, d⟩ := h.ok x hx
    exact ⟨a, by omega, c, fun j h0 h1 h2 => d j h0 (hj j h1 h2) h2⟩
  · exact h.all x h0 (hj x h1 h2) h2 (fun j h4 h5 h6 => h3 j h4 (by omega) h6)
  · exact h.none h0 j h1 (hj j h2 h3) h3
theorem FitsP.first {l : List S35} {need i : Int} (hi : 0 ≤ i) (h : FitsP l need i []) (ho : OkB l need i) : FitsP l need (i + 1) [i] := by
  have hj : ∀ j : Int, 0 ≤ j → j < i + 1 → OkB l need j → j = i := fun j h0 h1 h2 => by
    by_cases e : j = i
    · exact e
    · exact absurd h2 (h.none rfl j h0 (by omega))
  refine ⟨fun x hx => ?_, fun x h0 h1 h2 h3 => ?_, fun h0 => by simp at h0, by simp; omega, by simp⟩
  · have hx := List.mem_singleton.1 hx
    subst hx
    exact ⟨hi, by omega, ho, fun j h0 h1 h2 => by rw [hj j h0 h1 h2]; exact Int.le_refl _⟩
  · rw [hj x h0 h1 h2]; simp
theorem FitsP.head {l : List S35} {need i : Int} {a : Int} {out : List Int} (h : FitsP l need i (a :: out)) : 0 ≤ a ∧ a < i ∧ OkB l need a ∧ ∀ x ∈ a :: out, (rd_T35 l x).f1 = (rd_T35 l a).f1 := by
  obtain ⟨h0, h1, h2, h3⟩ := h.ok a (by simp)
  refine ⟨h0, h1, h2, fun x hx => ?_⟩
  obtain ⟨g0, g1, g2, g3⟩ := h.ok x hx
  have := h3 x g0 g1 g2
  have := g3 a h0 h1 h2
  omega
theorem FitsP.less {l : List S35} {need i : Int} {a : Int} {out : List Int} (h : FitsP l need i (a :: out)) (ho : OkB l need i) (hs : (rd_T35 l i).f1 < (rd_T35 l a).f1) : FitsP l need (i + 1) [i] := by
  obtain ⟨h0, h1, h2, h3⟩ := h.ok a (by simp)
  refine ⟨fun x hx => ?_, fun x g0 g1 g2 g3 => ?_, fun h0 => by simp at h0, by simp; omega, by simp⟩
  · have hx := List.mem_singleton.1 hx
    subst hx
    refine ⟨by omega, by omega, ho, fun j g0 g1 g2 => ?_⟩
    by_cases e : j = x
    · subst e; exact Int.le_refl _
    · have := h3 j g0 (by omega) g2; omega
  · by_cases e : x = i
    · subst e; simp
    · exfalso
      have := h3 x g0 (by omega) g2
      have := g3 i (by omega) (by omega) ho
      omega
theorem FitsP.same {l : List S35} {need i : Int} {a : Int} {out : List Int} (h : FitsP l need i (a :: out)) (ho : OkB l need i) (hs : (rd_T35 l i).f1 = (rd_T35 l a).f1) : FitsP l need (i + 1) ((a :: out) ++ [i]) := by
  obtain ⟨h0, h1, h2, h3⟩ := h.ok a (by simp)
  have hh := h.head.2.2.2
  refine ⟨fun x hx => ?_, fun x g0 g1 g2 g3 => ?_, fun h0 => by simp at h0, by have := h.len; simp at this ⊢; omega, ?_⟩
  · have key : ∀ j : Int, 0 ≤ j → j < i + 1 → OkB l need j → (rd_T35 l a).f1 ≤ (rd_T35 l j).f1 := fun j g0 g1 g2 => by
      by_cases e : j = i
      · subst e; omega
      · exact h3 j g0 (by omega) g2
    rcases List.mem_append.1 hx with hx | hx
    · obtain ⟨k0, k1, k2, _⟩ := h.ok x hx
      exact ⟨k0, by omega, k2, fun j g0 g1 g2 => by rw [hh x hx]; exact key j g0 g1 g2⟩
    · have hx := List.mem_singleton.1 hx
      subst hx
      exact ⟨by omega, by omega, ho, fun j g0 g1 g2 => by rw [hs]; exact key j g0 g1 g2⟩
  · by_cases e : x = i
    · subst e; simp
    · exact List.mem_append_left _ (h.all x g0 (by omega) g2 (fun j k0 k1 k2 => g3 j k0 (by omega) k2))
  · refine List.pairwise_append.2 ⟨h.up, by simp, fun x hx y hy => ?_⟩
    have hy := List.mem_singleton.1 hy
    subst hy
    exact (h.ok x hx).2.1
theorem FitsP.more {l : List S35} {need i : Int} {a : Int} {out : List Int} (h : FitsP l need i (a :: out)) (hs : (rd_T35 l a).f1 < (rd_T35 l i).f1) : FitsP l need (i + 1) (a :: out) := by
  obtain ⟨h0, h1, h2, h3⟩ := h.ok a (by simp)
  have hh := h.head.2.2.2
  refine ⟨fun x hx => ?_, fun x g0 g1 g2 g3 => ?_, fun h0 => by simp at h0, by have := h.len; omega, h.up⟩
  · obtain ⟨k0, k1, k2, k3⟩ := h.ok x hx
    refine ⟨k0, by omega, k2, fun j g0 g1 g2 => ?_⟩
    by_cases e : j = i
    · subst e; have := hh x hx; omega
    · exact k3 j g0 (by omega) g2
  · by_cases e : x = i
    · subst e
      have := g3 a h0 (by omega) h2
      omega
    · exact h.all x g0 (by omega) g2 (fun j k0 k1 k2 => g3 j k0 (by omega) k2)
theorem rd_head (a : Int) (out : List Int) : rd (a :: out) 0 = a := rfl
theorem fits_l0 {l : List S35} {need : Int} (hl : Wf l) (hn : 2 ≤ need) (d : Nat) : ∀ (i : Int) (out : List Int), 0 ≤ i → i + d = l.length → FitsP l need i out →
    ∃ r, Ev (fun k => fit_Fits.l0 k l need out l (l.length : Int) i) r ∧ FitsP l need l.length r := by
  have hlen := hl.1
  induction d with
  | zero =>
    intro i out h0 hd h
    have e : i = (l.length : Int) := by omega
    subst e
    exact ⟨out, Ev.step (fun k => by rw [fit_Fits.l0]) (ev_neg (by omega) (Ev.now _)), h⟩
  | succ d ih =>
    intro i out h0 hd h
    have hlt : i < (l.length : Int) := by omega
    have hol := h.len
    by_cases ho : OkB l need i
    · have enter : ∀ r, Ev (fun k => fit_Fits.j1 k l need out i l (l.length : Int) i false ((rd_T35 l i).f0) ((rd_T35 l i).f1) ((rd_T35 l i).f2)) r → Ev (fun k => fit_Fits.l0 k l need out l (l.length : Int) i) r := by
        intro r hr
        refine Ev.step (fun k => by rw [fit_Fits.l0]) ?_
        refine ev_pos hlt (ev_pos h0 (ev_pos hlt (ev_neg (by omega) (ev_neg (by rw [ho.1]; decide) ?_))))
        rw [decide_eq_false (by have := ho.2; omega)]
        exact hr
      cases out with
      | nil =>
        obtain ⟨r, hr, hp⟩ := ih (i + 1) [i] (by omega) (by omega) (h.first h0 ho)
        refine ⟨r, enter r ?_, hp⟩
        refine Ev.step (fun k => by rw [fit_Fits.j1]) (ev_neg (by decide) (ev_neg (by decide) ?_))
        refine Ev.step (fun k => by rw [fit_Fits.j2]) (ev_neg (by decide) (ev_pos (by decide) (ev_pos (by decide) ?_)))
        rw [w64 (n := i + 1) (by omega)]
        exact hr
      | cons a out =>
        obtain ⟨a0, a1, a2, a3⟩ := h.head
        have go : ∀ r (b : Bool), b = decide ((rd_T35 l i).f1 < (rd_T35 l a).f1) → Ev (fun k => fit_Fits.j2 k l need (a :: out) i l (l.length : Int) i b ((rd_T35 l i).f0) ((rd_T35 l i).f1) ((rd_T35 l i).f2)) r →
            Ev (fun k => fit_Fits.j1 k l need (a :: out) i l (l.length : Int) i false ((rd_T35 l i).f0) ((rd_T35 l i).f1) ((rd_T35 l i).f2)) r := by
          intro r b hb hr
          refine Ev.step (fun k => by rw [fit_Fits.j1]) (ev_neg (by decide) (ev_pos (by simp) (ev_pos (by simp) ?_)))
          rw [rd_head]
          refine ev_pos a0 (ev_pos (by omega) ?_)
          rw [← hb]
          exact hr
        by_cases c1 : (rd_T35 l i).f1 < (rd_T35 l a).f1
        · obtain ⟨r, hr, hp⟩ := ih (i + 1) [i] (by omega) (by omega) (h.less ho c1)
          refine ⟨r, enter r (go r true (by rw [decide_eq_true c1]) ?_), hp⟩
          refine Ev.step (fun k => by rw [fit_Fits.j2]) (ev_pos rfl (ev_pos (by decide) ?_))
          rw [w64 (n := i + 1) (by omega)]
          exact hr
        · by_cases c2 : (rd_T35 l i).f1 = (rd_T35 l a).f1
          · obtain ⟨r, hr, hp⟩ := ih (i + 1) ((a :: out) ++ [i]) (by omega) (by omega) (h.same ho c2)
            refine ⟨r, enter r (go r false (by rw [decide_eq_false c1]) ?_), hp⟩
            refine Ev.step (fun k => by rw [fit_Fits.j2]) (ev_neg (by decide) (ev_neg (by simp; omega) (ev_pos (by simp) ?_)))
            rw [rd_head, w64 (n := i + 1) (by omega)]
            refine ev_pos a0 (ev_pos (by omega) (ev_pos c2 (ev_pos (by omega) hr)))
          · obtain ⟨r, hr, hp⟩ := ih (i + 1) (a :: out) (by omega) (by omega) (h.more (by omega))
            refine ⟨r, enter r (go r false (by rw [decide_eq_false c1]) ?_), hp⟩
            refine Ev.step (fun k => by rw [fit_Fits.j2]) (ev_neg (by decide) (ev_neg (by simp; omega) (ev_pos (by simp) ?_)))
            rw [rd_head, w64 (n := i + 1) (by omega)]
            exact ev_pos a0 (ev_pos (by omega) (ev_neg c2 hr))
    · obtain ⟨r, hr, hp⟩ := ih (i + 1) out (by omega) (by omega) (h.skip ho)
      refine ⟨r, Ev.step (fun k => by rw [fit_Fits.l0]) ?_, hp⟩
      have j1 : Ev (fun k => fit_Fits.j1 k l need out i l (l.length : Int) i true ((rd_T35 l i).f0) ((rd_T35 l i).f1) ((rd_T35 l i).f2)) r := by
        refine Ev.step (fun k => by rw [fit_Fits.j1]) (ev_pos rfl ?_)
        rw [w64 (n := i + 1) (by omega)]
        exact hr
      refine ev_pos hlt (ev_pos h0 (ev_pos hlt (ev_neg (by omega) ?_)))
      refine ev_ite (fun _ => j1) (fun c => ?_)
      rw [decide_eq_true (show (rd_T35 l i).f1 < need from by
        have : ¬ (need ≤ (rd_T35 l i).f1) := fun hh => ho ⟨by simpa using c, hh⟩
        omega)]
      exact j1
theorem fits_ev {l : List S35} {need : Int} (hl : Wf l) (hn : 2 ≤ need) : ∃ r, Ev (fun k => fit_Fits.f k l need) r ∧ FitsP l need l.length r :=
  fits_l0 hl hn l.length 0 [] (by omega) (by omega) (FitsP.zero l need)
/-- How often the page of a block was written. -/
def cntS (at_ : Int) (counts : List Int) : Int := if at_ < 0 ∨ (counts.length : Int) ≤ at_ / 32 then 0 else rd counts (at_ / 32)
theorem count_eq {a b : Int} {c : Bool} {counts : List Int} (h1 : a ≤ 9223372036854775807) : fit_count.f a b c counts = some (cntS a counts) := by
  unfold fit_count.f cntS
  by_cases h : a < 0
  · rw [if_pos h, if_pos (Or.inl h)]
  · rw [if_neg h, tdivp (by omega), w64 (n := a / 32) (by omega)]
    by_cases h2 : a / 32 ≥ (counts.length : Int)
    · rw [if_pos h2, if_pos (Or.inr h2)]
    · rw [if_neg h2, if_pos (by omega), if_pos (by omega), if_neg (by omega)]
/-- One of the places, at which the page was written least often, and of those the lowest block. -/
def Leq (l : List S35) (counts : List Int) (x y : Int) : Prop :=
  cntS (rd_T35 l x).f0 counts < cntS (rd_T35 l y).f0 counts ∨ (cntS (rd_T35 l x).f0 counts = cntS (rd_T35 l y).f0 counts ∧ (rd_T35 l x).f0 ≤ (rd_T35 l y).f0)
def ChooseP (l : List S35) (counts out : List Int) (c : Int) : Prop := (out = [] ∧ c = -1) ∨ (c ∈ out ∧ ∀ y ∈ out, Leq l counts c y)
theorem rd_mid (pre suf : List Int) (x : Int) : rd (pre ++ x :: suf) (pre.length : Int) = x := by
  unfold rd
  rw [List.getD_eq_getElem?_getD, Int.toNat_natCast, List.getElem?_append_right (by omega)]
  simp
theorem choose_l0 {l : List S35} {counts : List Int} (hl : Wf l) (suf : List Int) : ∀ (pre : List Int) (best : Int), (∀ x ∈ pre ++ suf, 0 ≤ x ∧ x < l.length) → (pre ++ suf).length ≤ 1000 → ChooseP l counts pre best →
    ∃ r, Ev (fun k => fit_Choose.l0 k l counts best (pre ++ suf) ((pre ++ suf).length : Int) (pre.length : Int)) r ∧ ChooseP l counts (pre ++ suf) r := by
  induction suf with
  | nil =>
    intro pre best hr hlen h
    refine ⟨best, Ev.step (fun k => by rw [fit_Choose.l0]) (ev_neg (by simp) (Ev.now _)), by simpa using h⟩
  | cons x suf ih =>
    intro pre best hr hlen h
    have hx := hr x (by simp)
    have e : pre ++ x :: suf = (pre ++ [x]) ++ suf := by simp
    have hlen2 : ((pre ++ [x]).length : Int) = (pre.length : Int) + 1 := by simp
    have hlt : (pre.length : Int) < ((pre ++ x :: suf).length : Int) := by simp; omega
    have next : ∀ b, ChooseP l counts (pre ++ [x]) b → ∃ r, Ev (fun k => fit_Choose.l0 k l counts b (pre ++ x :: suf) ((pre ++ x :: suf).length : Int) ((pre.length : Int) + 1)) r ∧ ChooseP l counts (pre ++ x :: suf) r := by
      intro b hb
      have := ih (pre ++ [x]) b (by rw [← e]; exact hr) (by rw [← e]; exact hlen) hb
      rw [hlen2, ← e] at this
      exact this
    have w1 : wrap64 ((pre.length : Int) + 1) = (pre.length : Int) + 1 := w64 (by simp at hlen; omega)
    rcases h with ⟨rfl, rfl⟩ | ⟨hm, hall⟩
    · obtain ⟨r, h1, h2⟩ := next x (Or.inr ⟨by simp, fun y hy => by simp at hy; subst hy; exact Or.inr ⟨rfl, Int.le_refl _⟩⟩)
      refine ⟨r, Ev.step (fun k => by rw [fit_Choose.l0]) ?_, h2⟩
      rw [rd_mid, w1]
      exact ev_pos hlt (ev_pos (by omega) (ev_pos hlt (ev_pos (by omega) h1)))
    · have hb := hr best (by simp [hm])
      have fx := hl.2 x
      have fb := hl.2 best
      have cx := count_eq (b := (rd_T35 l x).f1) (c := (rd_T35 l x).f2) (counts := counts) fx.2.1
      have cb := count_eq (b := (rd_T35 l best).f1) (c := (rd_T35 l best).f2) (counts := counts) fb.2.1
      by_cases c1 : cntS (rd_T35 l x).f0 counts < cntS (rd_T35 l best).f0 counts ∨ (cntS (rd_T35 l x).f0 counts = cntS (rd_T35 l best).f0 counts ∧ (rd_T35 l x).f0 < (rd_T35 l best).f0)
      · obtain ⟨r, h1, h2⟩ := next x (Or.inr ⟨by simp, fun y hy => by
          rcases List.mem_append.1 hy with hy | hy
          · have := hall y hy
            unfold Leq at this ⊢
            omega
          · simp at hy; subst hy; exact Or.inr ⟨rfl, Int.le_refl _⟩⟩)
        refine ⟨r, Ev.step (fun k => by rw [fit_Choose.l0]) ?_, h2⟩
        rw [rd_mid, w1]
        refine ev_pos hlt (ev_pos (by omega) (ev_pos hlt (ev_neg (by omega) (ev_pos hx.1 (ev_pos hx.2 (ev_bindc cx (ev_pos hb.1 (ev_pos hb.2 (ev_bindc cb ?_)))))))))
        rcases c1 with c1 | c1
        · exact ev_pos c1 h1
        · exact ev_neg (by omega) (ev_pos c1.1 (ev_pos c1.2 h1))
      · obtain ⟨r, h1, h2⟩ := next best (Or.inr ⟨by simp [hm], fun y hy => by
          rcases List.mem_append.1 hy with hy | hy
          · exact hall y hy
          · simp at hy; subst hy; unfold Leq; omega⟩)
        refine ⟨r, Ev.step (fun k => by rw [fit_Choose.l0]) ?_, h2⟩
        rw [rd_mid, w1]
        refine ev_pos hlt (ev_pos (by omega) (ev_pos hlt (ev_neg (by omega) (ev_pos hx.1 (ev_pos hx.2 (ev_bindc cx (ev_pos hb.1 (ev_pos hb.2 (ev_bindc cb ?_)))))))))
        refine ev_neg (by omega) ?_
        refine ev_ite (fun c2 => ev_neg (by omega) h1) (fun _ => h1)
theorem choose_ev {l : List S35} {need : Int} {counts : List Int} (hl : Wf l) (hn : 2 ≤ need) : ∃ out r, Ev (fun k => fit_Fits.f k l need) out ∧ FitsP l need l.length out ∧ Ev (fun k => fit_Choose.f k l need counts) r ∧ ChooseP l counts out r := by
  obtain ⟨out, h1, h2⟩ := fits_ev hl hn
  have hlen := hl.1
  obtain ⟨r, h3, h4⟩ := choose_l0 (counts := counts) hl out [] (-1) (fun x hx => by
    have := h2.ok x (by simpa using hx); exact ⟨this.1, this.2.1⟩) (by have := h2.len; simp; omega) (Or.inl ⟨rfl, rfl⟩)
  refine ⟨out, r, h1, h2, ?_, h4⟩
  unfold fit_Choose.f
  exact ev_bind h1 h3
/-- What the chosen place is. -/
theorem chosen {l : List S35} {need : Int} {counts out : List Int} {c : Int} (hf : FitsP l need l.length out) (hc : ChooseP l counts out c) :
    (c = -1 ∧ out = [] ∧ ∀ j : Int, 0 ≤ j → j < l.length → ¬ OkB l need j) ∨
    (0 ≤ c ∧ c < l.length ∧ OkB l need c ∧ c ∈ out ∧ (∀ y ∈ out, Leq l counts c y) ∧ ∀ j : Int, 0 ≤ j → j < l.length → OkB l need j → (rd_T35 l c).f1 ≤ (rd_T35 l j).f1) := by
  rcases hc with ⟨h1, h2⟩ | ⟨h1, h2⟩
  · exact Or.inl ⟨h2, h1, hf.none h1⟩
  · obtain ⟨a, b, c, d⟩ := hf.ok _ h1
    exact Or.inr ⟨a, b, c, h1, h2, d⟩
theorem awake_ev : Ev (fun k => darninglaw15_awake.f k) true := Ev.of (fun k => darninglaw15_awake.mono k) (k := 20) (by decide +kernel)
/-- Blocks side by side, from a word on; fr: is the block ahead of them free? -/
def ChainP (words : Int) : Int → Bool → List S35 → Prop
  | a, _, [] => a = words
  | a, fr, b :: l => b.f0 = a ∧ 2 ≤ b.f1 ∧ b.f1 ≤ 512 ∧ b.f1 ≤ words - a ∧ (fr = true → b.f2 = true) ∧ ChainP words (a + b.f1) (!b.f2) l
def MayW (words : Int) : Prop := 8 ≤ words ∧ words ≤ 512 ∧ words % 8 = 0
def MayB (l : List S35) (words : Int) : Prop := MayW words ∧ ChainP words 0 false l
theorem chain_mem {words : Int} {l : List S35} : ∀ {a : Int} {fr : Bool}, ChainP words a fr l → ∀ b ∈ l, a ≤ b.f0 ∧ 2 ≤ b.f1 ∧ b.f1 ≤ 512 ∧ b.f0 + b.f1 ≤ words := by
  induction l with
  | nil => exact fun _ b hb => absurd hb (by simp)
  | cons c l ih =>
    intro a fr h b hb
    obtain ⟨h0, h1, h2, h3, h4, h5⟩ := h
    rcases List.mem_cons.1 hb with hb | hb
    · subst hb; omega
    · have := ih h5 b hb; omega
theorem chain_up {words : Int} {l : List S35} : ∀ {a : Int} {fr : Bool}, ChainP words a fr l → l.Pairwise (fun b c => b.f0 + b.f1 ≤ c.f0) := by
  induction l with
  | nil => exact fun _ => List.Pairwise.nil
  | cons c l ih =>
    intro a fr h
    obtain ⟨h0, h1, h2, h3, h4, h5⟩ := h
    refine List.pairwise_cons.2 ⟨fun b hb => ?_, ih h5⟩
    have := chain_mem h5 b hb
    omega
theorem chain_le {words : Int} {l : List S35} : ∀ {a : Int} {fr : Bool}, ChainP words a fr l → a ≤ words := by
  induction l with
  | nil => exact fun h => Int.le_of_eq h
  | cons c l ih =>
    intro a fr h
    obtain ⟨h0, h1, h2, h3, h4, h5⟩ := h
    omega
theorem chain_len {words : Int} {l : List S35} : ∀ {a : Int} {fr : Bool}, ChainP words a fr l → a + 2 * l.length ≤ words := by
  induction l with
  | nil => intro a fr h; have : a = words := h; simp; omega
  | cons c l ih =>
    intro a fr h
    obtain ⟨h0, h1, h2, h3, h4, h5⟩ := h
    have := ih h5
    simp; omega
theorem chain_rd {words : Int} {l : List S35} (h : ChainP words 0 false l) {j : Int} (h0 : 0 ≤ j) (h1 : j < l.length) :
    0 ≤ (rd_T35 l j).f0 ∧ 2 ≤ (rd_T35 l j).f1 ∧ (rd_T35 l j).f1 ≤ 512 ∧ (rd_T35 l j).f0 + (rd_T35 l j).f1 ≤ words := chain_mem h _ (rdt_mem h0 h1)
theorem chain_lt {words : Int} {l : List S35} (h : ChainP words 0 false l) {i j : Int} (h0 : 0 ≤ i) (h1 : i < j) (h2 : j < l.length) : (rd_T35 l i).f0 + (rd_T35 l i).f1 ≤ (rd_T35 l j).f0 := by
  obtain ⟨hi, ei⟩ := rdt_get (l := l) h0 (by omega)
  obtain ⟨hj, ej⟩ := rdt_get (l := l) (j := j) (by omega) h2
  rw [ei, ej]
  exact List.pairwise_iff_getElem.1 (chain_up h) _ _ hi hj (by omega)
/-- Is the last one of some blocks free? -/
def frOf (l : List S35) : Bool := match l.getLast? with | some b => !b.f2 | none => false
theorem frOf_snoc (l : List S35) (b : S35) : frOf (l ++ [b]) = !b.f2 := by simp [frOf]
theorem frOf_pos {l : List S35} (h : frOf l = true) : ∃ m b, l = m ++ [b] ∧ b.f2 = false := by
  rcases List.eq_nil_or_concat l with rfl | ⟨m, b, rfl⟩
  · simp [frOf] at h
  · refine ⟨m, b, by simp, ?_⟩
    simpa [frOf] using h
theorem maysize_eq (n : Int) : darningref4_MaySize.f n = some (decide (2 ≤ n ∧ n ≤ 512)) := by
  unfold darningref4_MaySize.f
  by_cases h2 : n ≥ 2
  · rw [if_pos h2]; congr 1; rw [Bool.eq_iff_iff]; simp only [decide_eq_true_iff]; omega
  · rw [if_neg h2, decide_eq_false (by omega)]
theorem rmayw_eq (n : Int) : darningref4_mayWords.f n = some (decide (8 ≤ n ∧ n ≤ 512 ∧ n % 8 = 0)) := by
  unfold darningref4_mayWords.f
  by_cases h1 : n ≥ 8
  · rw [if_pos h1]
    by_cases h2 : n ≤ 512
    · rw [if_pos h2, tmodp (by omega)]
      congr 1
      rw [Bool.eq_iff_iff, beq_iff_eq, decide_eq_true_iff]
      exact ⟨fun h => ⟨h1, h2, h⟩, fun h => h.2.2⟩
    · rw [if_neg h2, decide_eq_false (by omega)]
  · rw [if_neg h1, decide_eq_false (by omega)]
theorem mayb_l0 {words : Int} (hw : words ≤ 512) (suf : List S35) : ∀ (pre : List S35) (a : Int), 0 ≤ a → a ≤ words → (pre ++ suf).length ≤ 1000 →
    ∃ b, Ev (fun k => darningref4_MayBlocks.l0 k (pre ++ suf) words a (pre ++ suf) ((pre ++ suf).length : Int) (pre.length : Int)) b ∧ (b = true ↔ ChainP words a (frOf pre) suf) := by
  induction suf with
  | nil =>
    intro pre a h0 h1 hl
    refine ⟨a == words, Ev.step (fun k => by rw [darningref4_MayBlocks.l0]) (ev_neg (by simp) (Ev.now _)), ?_⟩
    rw [beq_iff_eq]; exact Iff.rfl
  | cons x suf ih =>
    intro pre a h0 h1 hl
    have e : pre ++ x :: suf = (pre ++ [x]) ++ suf := by simp
    have hlen2 : ((pre ++ [x]).length : Int) = (pre.length : Int) + 1 := by simp
    have hlt : (pre.length : Int) < ((pre ++ x :: suf).length : Int) := by simp; omega
    have w1 : wrap64 ((pre.length : Int) + 1) = (pre.length : Int) + 1 := w64 (by simp at hl; omega)
    have w2 : wrap64 (words - a) = words - a := w64 (by omega)
    by_cases c1 : x.f0 = a
    · by_cases c2 : 2 ≤ x.f1 ∧ x.f1 ≤ 512
      · by_cases c3 : x.f1 > words - a
        · refine ⟨false, Ev.step (fun k => by rw [darningref4_MayBlocks.l0]) ?_, ⟨fun h => (by cases h), fun h => by have := h.2.2.2.1; omega⟩⟩
          rw [rdt_mid, w2]
          exact ev_pos hlt (ev_pos (by omega) (ev_pos hlt (ev_pos c1 (ev_bindc (maysize_eq _) (ev_pos (by simp [c2]) (ev_pos c3 (Ev.now _)))))))
        · have w3 : wrap64 (a + x.f1) = a + x.f1 := w64 (by omega)
          obtain ⟨b, hb, hi⟩ := ih (pre ++ [x]) (a + x.f1) (by omega) (by omega) (by rw [← e]; exact hl)
          rw [hlen2, ← e] at hb
          rw [frOf_snoc] at hi
          by_cases c4 : frOf pre = true ∧ x.f2 = false
          · obtain ⟨m, y, hm, hy⟩ := frOf_pos c4.1
            refine ⟨false, Ev.step (fun k => by rw [darningref4_MayBlocks.l0]) ?_, ⟨fun h => (by cases h), fun h => by have := h.2.2.2.2.1 c4.1; rw [c4.2] at this; cases this⟩⟩
            rw [rdt_mid, w2, w1, w3]
            refine ev_pos hlt (ev_pos (by omega) (ev_pos hlt (ev_pos c1 (ev_bindc (maysize_eq _) (ev_pos (by simp [c2]) (ev_neg c3 ?_))))))
            have hp : 0 < (pre.length : Int) := by rw [hm, List.length_append, List.length_singleton]; omega
            refine ev_pos hp (ev_neg (by rw [c4.2]; decide) ?_)
            have w4 : wrap64 ((pre.length : Int) - 1) = (pre.length : Int) - 1 := w64 (by simp at hl; omega)
            rw [w4]
            refine ev_pos (by omega) (ev_pos (by omega) (ev_neg ?_ (Ev.now _)))
            have e2 : rd_T35 (pre ++ x :: suf) ((pre.length : Int) - 1) = y := by rw [hm]; exact rdt_last m (x :: suf) y
            rw [e2, hy]; decide
          · refine ⟨b, Ev.step (fun k => by rw [darningref4_MayBlocks.l0]) ?_, ?_⟩
            · rw [rdt_mid, w2, w1, w3]
              refine ev_pos hlt (ev_pos (by omega) (ev_pos hlt (ev_pos c1 (ev_bindc (maysize_eq _) (ev_pos (by simp [c2]) (ev_neg c3 ?_))))))
              refine ev_ite (fun hp => ev_ite (fun _ => hb) (fun hu => ?_)) (fun _ => hb)
              have w4 : wrap64 ((pre.length : Int) - 1) = (pre.length : Int) - 1 := w64 (by simp at hl; omega)
              rw [w4]
              refine ev_pos (by omega) (ev_pos (by omega) (ev_pos ?_ hb))
              rcases List.eq_nil_or_concat pre with hn | ⟨m, y, hm⟩
              · subst hn; simp at hp
              · rw [List.concat_eq_append] at hm
                have e2 : rd_T35 (pre ++ x :: suf) ((pre.length : Int) - 1) = y := by rw [hm]; exact rdt_last m (x :: suf) y
                rw [e2]
                have hfr : frOf pre = !y.f2 := by rw [hm, frOf_snoc]
                rw [hfr] at c4
                cases hy : y.f2 with
                | true => rfl
                | false =>
                  exact absurd ⟨by rw [hy]; rfl, by simpa using hu⟩ c4
            · rw [hi]
              constructor
              · intro h
                exact ⟨c1, c2.1, c2.2, by omega, fun hf => by
                  cases hx : x.f2 with
                  | true => rfl
                  | false => exact absurd ⟨hf, hx⟩ c4, h⟩
              · exact fun h => h.2.2.2.2.2
      · refine ⟨false, Ev.step (fun k => by rw [darningref4_MayBlocks.l0]) ?_, ⟨fun h => (by cases h), fun h => absurd ⟨h.2.1, h.2.2.1⟩ c2⟩⟩
        rw [rdt_mid]
        exact ev_pos hlt (ev_pos (by omega) (ev_pos hlt (ev_pos c1 (ev_bindc (maysize_eq _) (ev_neg (by simp; omega) (Ev.now _))))))
    · refine ⟨false, Ev.step (fun k => by rw [darningref4_MayBlocks.l0]) ?_, ⟨fun h => (by cases h), fun h => absurd h.1 c1⟩⟩
      rw [rdt_mid]
      exact ev_pos hlt (ev_pos (by omega) (ev_pos hlt (ev_neg c1 (Ev.now _))))
theorem mayb_ev {l : List S35} (words : Int) (hl : l.length ≤ 1000) : ∃ b, Ev (fun k => darningref4_MayBlocks.f k l words) b ∧ (b = true ↔ MayB l words) := by
  unfold darningref4_MayBlocks.f
  by_cases h : 8 ≤ words ∧ words ≤ 512 ∧ words % 8 = 0
  · obtain ⟨b, hb, hi⟩ := mayb_l0 h.2.1 l [] 0 (by omega) (by omega) hl
    refine ⟨b, ev_bindc (rmayw_eq words) (ev_pos (by simp [h]) hb), hi.trans ⟨fun hh => ⟨h, hh⟩, fun hh => hh.2⟩⟩
  · exact ⟨false, ev_bindc (rmayw_eq words) (ev_neg (by simpa using h) (Ev.now _)), ⟨fun hh => (by cases hh), fun hh => absurd hh.1 h⟩⟩
theorem mayb_yes {l : List S35} {words : Int} (hl : l.length ≤ 1000) (h : MayB l words) : Ev (fun k => darningref4_MayBlocks.f k l words) true := by
  obtain ⟨b, hb, hi⟩ := mayb_ev words hl
  rwa [hi.2 h] at hb
theorem mayb_no {l : List S35} {words : Int} (hl : l.length ≤ 1000) (h : ¬ MayB l words) : Ev (fun k => darningref4_MayBlocks.f k l words) false := by
  obtain ⟨b, hb, hi⟩ := mayb_ev words hl
  cases b with
  | true => exact absurd (hi.1 rfl) h
  | false => exact hb
def pg (l : List S35) (x : Int) : Int := (rd_T35 l x).f0 / 32
theorem order_l0 {l : List S35} {words c d : Int} (hC : MayB l words) (c0 : 0 ≤ c) (c1 : c < l.length) (f : List Int) (hf : ∀ x ∈ f, 0 ≤ x ∧ x < l.length) (hlen : f.length ≤ 1000)
    (h1 : ∀ pre x suf, f = pre ++ x :: suf → (∀ y ∈ pre, pg l y = pg l c) → pg l x ≠ pg l c → d = x) (h2 : (∀ y ∈ f, pg l y = pg l c) → d = c) (suf : List Int) : ∀ pre : List Int, f = pre ++ suf → (∀ y ∈ pre, pg l y = pg l c) →
    Ev (fun k => darninglaw15_FitOrder.l0 k l c d f (f.length : Int) (pre.length : Int)) true := by
  induction suf with
  | nil =>
    intro pre he hp
    rw [List.append_nil] at he
    subst he
    exact Ev.step (fun k => by rw [darninglaw15_FitOrder.l0]) (ev_neg (by omega) (ev_pos (h2 hp) (ev_bind awake_ev (Ev.now _))))
  | cons x suf ih =>
    intro pre he hp
    have hx := hf x (by rw [he]; simp)
    have rx := chain_rd hC.2 hx.1 hx.2
    have rc := chain_rd hC.2 c0 c1
    have hw := hC.1.2.1
    have hlt : (pre.length : Int) < (f.length : Int) := by rw [he]; simp; omega
    have em : rd f (pre.length : Int) = x := by rw [he]; exact rd_mid pre suf x
    have w1 : wrap64 ((pre.length : Int) + 1) = ((pre ++ [x]).length : Int) := by rw [w64 (by omega)]; simp
    refine Ev.step (fun k => by rw [darninglaw15_FitOrder.l0]) ?_
    rw [em, w1, tdivp rx.1, tdivp rc.1, w64 (n := (rd_T35 l x).f0 / 32) (by omega), w64 (n := (rd_T35 l c).f0 / 32) (by omega)]
    refine ev_pos hlt (ev_pos (by omega) (ev_pos hlt (ev_pos (by omega) (ev_pos hx.2 (ev_pos hx.1 (ev_pos c0 (ev_pos c1 ?_)))))))
    refine ev_ite (fun h => ?_) (fun h => ?_)
    · exact ih (pre ++ [x]) (by rw [he]; simp) (fun y hy => by
        rcases List.mem_append.1 hy with hy | hy
        · exact hp y hy
        · rw [List.mem_singleton.1 hy]; exact h)
    · exact ev_pos (h1 pre x suf he hp h) (ev_bind awake_ev (Ev.now _))
theorem rd_one {i : Nat} (hi : i < 16) (j : Int) (h0 : 0 ≤ j) (h1 : j < 16) : rd ((List.replicate 16 0).set i 1) j = if j.toNat = i then 1 else 0 := by
  unfold rd
  rw [List.getD_eq_getElem?_getD, List.getElem?_set, List.getElem?_replicate]
  by_cases h : i = j.toNat
  · rw [if_pos h, if_pos h.symm, if_pos (by simp; omega)]; rfl
  · rw [if_neg h, if_pos (by omega : j.toNat < 16), if_neg (fun e => h e.symm)]; rfl
theorem FitOrder : darninglaw15_FitOrder.Pure := by
  intro l words a hm hy hw h1 h2
  apply Ev.rounds
  unfold darninglaw15_FitOrder.f
  have outp : Ev (fun k => darninglaw15_FitOrder.j0 k l a true) true :=
    Ev.step (fun k => by rw [darninglaw15_FitOrder.j0]) (ev_pos rfl (ev_bind awake_ev (Ev.now _)))
  refine ev_ite (fun _ => outp) (fun hc => ?_)
  by_cases hC : MayB l words
  case neg => exact ev_bind (mayb_no (by omega) hC) outp
  refine ev_bind (mayb_yes (by omega) hC) ?_
  refine Ev.step (fun k => by rw [darninglaw15_FitOrder.j0]) (ev_neg (by decide) ?_)
  rw [modw a 60 (by omega) (by omega), w64 (n := 2 + _) (by omega)]
  generalize hn : 2 + a % 18446744073709551616 % 60 = need
  have W : Wf l := wf_of hw (by omega)
  have hwd := hC.1.2.1
  obtain ⟨out, c, e1, f, e2, p⟩ := choose_ev (need := need) (counts := []) W (by omega)
  refine ev_bind e1 (ev_bind e2 ?_)
  rcases chosen f p with ⟨q1, q2, _⟩ | ⟨c0, c1, c2, c3, c4, c5⟩
  · exact ev_pos (by rw [q2]; rfl) (ev_pos q1 (ev_bind awake_ev (Ev.now _)))
  have atlt : ∀ x y : Int, x ∈ out → y ∈ out → x < y → (rd_T35 l x).f0 < (rd_T35 l y).f0 := by
    intro x y hx hy h
    obtain ⟨x0, x1, _⟩ := f.ok x hx
    obtain ⟨y0, y1, _⟩ := f.ok y hy
    have := chain_lt hC.2 x0 h y1
    have := chain_rd hC.2 x0 x1
    omega
  have inj : ∀ x y : Int, x ∈ out → y ∈ out → (rd_T35 l x).f0 ≤ (rd_T35 l y).f0 → x ≤ y := by
    intro x y hx hy h
    by_cases hh : y < x
    · have := atlt y x hy hx hh; omega
    · omega
  cases hout : out with
  | nil => rw [hout] at c3; simp at c3
  | cons b rest =>
    have hb : b ∈ out := by rw [hout]; simp
    have hup := f.up
    rw [hout] at hup
    have hmin : ∀ y ∈ out, b ≤ y := by
      intro y hy
      rw [hout] at hy
      rcases List.mem_cons.1 hy with hy | hy
      · rw [hy]; exact Int.le_refl _
      · have := (List.pairwise_cons.1 hup).1 y hy; omega
    have hcb : c = b := by
      have h3 := c4 b hb
      have hz : ∀ x : Int, cntS x [] = 0 := fun x => by
        unfold cntS
        by_cases hx : x < 0 ∨ (([] : List Int).length : Int) ≤ x / 32
        · rw [if_pos hx]
        · rw [if_neg hx]; rfl
      unfold Leq at h3
      rw [hz, hz] at h3
      have := inj c b c3 hb (by omega)
      have := hmin c c3
      omega
    refine ev_neg (by simp; omega) (ev_pos (by simp) (ev_pos (by rw [rd_head]; exact hcb) (ev_neg (by omega) ?_)))
    rw [decide_eq_false (by omega), ← hout]
    refine Ev.step (fun k => by rw [darninglaw15_FitOrder.j1]) ?_
    refine ev_neg (by decide) (ev_pos (by omega) (ev_bindc rfl ?_))
    refine ev_pos c0 (ev_pos c1 ?_)
    have rc := chain_rd hC.2 c0 c1
    rw [tdivp rc.1, w64 (n := (rd_T35 l c).f0 / 32) (by omega)]
    refine ev_pos (by omega) (ev_pos (by simp; omega) ?_)
    have ez : rd (List.replicate 16 0) ((rd_T35 l c).f0 / 32) = 0 := by
      unfold rd
      rw [List.getD_eq_getElem?_getD, List.getElem?_replicate, if_pos (by omega)]; rfl
    rw [ez, w64 (n := 0 + 1) (by omega), Int.zero_add]
    obtain ⟨out2, d, e3, f3, e4, p4⟩ := choose_ev (need := need) (counts := (List.replicate 16 0).set ((rd_T35 l c).f0 / 32).toNat 1) W (by omega)
    have hcnt : ∀ x : Int, 0 ≤ x → x < l.length → cntS (rd_T35 l x).f0 ((List.replicate 16 0).set ((rd_T35 l c).f0 / 32).toNat 1) = if pg l x = pg l c then 1 else 0 := by
      intro x x0 x1
      have rx := chain_rd hC.2 x0 x1
      unfold cntS pg
      rw [if_neg (by simp; omega), rd_one (by omega) _ (by omega) (by omega)]
      by_cases h : (rd_T35 l x).f0 / 32 = (rd_T35 l c).f0 / 32
      · rw [if_pos (by rw [h]), if_pos h]
      · rw [if_neg (by omega), if_neg h]
    refine ev_bind e4 ?_
    -- the places told are the same
    have hsame : ∀ x, x ∈ out2 ↔ x ∈ out := by
      intro x
      constructor
      · intro hx
        obtain ⟨a0, a1, a2, a3⟩ := f3.ok x hx
        exact f.all x a0 a1 a2 a3
      · intro hx
        obtain ⟨a0, a1, a2, a3⟩ := f.ok x hx
        exact f3.all x a0 a1 a2 a3
    obtain ⟨d3, d4⟩ : d ∈ out ∧ ∀ y ∈ out, Leq l ((List.replicate 16 0).set ((rd_T35 l c).f0 / 32).toNat 1) d y := by
      rcases p4 with ⟨q1, _⟩ | ⟨q1, q2⟩
      · have := (hsame c).2 c3
        rw [q1] at this; simp at this
      · exact ⟨(hsame d).1 q1, fun y hy => q2 y ((hsame y).2 hy)⟩
    have dr := f.ok d d3
    refine order_l0 (words := words) hC c0 c1 out (fun x hx => ⟨(f.ok x hx).1, (f.ok x hx).2.1⟩) (by have := f.len; omega) ?_ ?_ out [] rfl (by simp)
    · intro pre x suf he hp hx
      have hxo : x ∈ out := by rw [he]; simp
      have xr := f.ok x hxo
      have h5 := d4 x hxo
      unfold Leq at h5
      rw [hcnt d dr.1 dr.2.1, hcnt x xr.1 xr.2.1, if_neg hx] at h5
      have hd : pg l d ≠ pg l c := by
        intro hh
        rw [if_pos hh] at h5
        omega
      rw [if_neg hd] at h5
      have hle : d ≤ x := inj d x d3 hxo (by omega)
      have hge : x ≤ d := by
        rw [he] at d3
        have hup2 := f.up
        rw [he] at hup2
        rcases List.mem_append.1 d3 with hd1 | hd1
        · exact absurd (hp d hd1) hd
        · rcases List.mem_cons.1 hd1 with hd2 | hd2
          · omega
          · have := (List.pairwise_cons.1 (List.pairwise_append.1 hup2).2.1).1 d hd2
            omega
      omega
    · intro hall
      have h5 := d4 c c3
      unfold Leq at h5
      rw [hcnt d dr.1 dr.2.1, hcnt c c0 c1, if_pos rfl, if_pos (hall d d3)] at h5
      have hle : d ≤ c := inj d c d3 c3 (by omega)
      have hge : b ≤ d := hmin d d3
      omega

end Go.Proofs.Ytjmlbkbjmeeplab.Pure
