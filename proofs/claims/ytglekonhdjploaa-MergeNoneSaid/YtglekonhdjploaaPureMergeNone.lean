/- MergeNone: what is free, or is not there, cannot be given back. -/
import Derived.Test.YtglekonhdjploaaXMergeNonex
namespace Go.Proofs.Ytglekonhdjploaa.Pure
open Go.RowKit Go.Proofs.Ytglekonhdjploaa.XMergeNone Go.Proofs.YtglekonhdjploaaW.PrintWords Go.Proofs.YtglekonhdjploaaW.PrintLast

theorem wf64 {a : Int} (h : (Lit.int .i64 a).wf = true) : -9223372036854775808 ≤ a ∧ a ≤ 9223372036854775807 := by
  simp [Lit.wf, IntKind.min, IntKind.max, IntKind.bits, IntKind.signed] at h
  omega
theorem wfu64 {a : Int} (h : (Lit.int .u64 a).wf = true) : 0 ≤ a ∧ a ≤ 18446744073709551615 := by
  simp [Lit.wf, IntKind.min, IntKind.max, IntKind.bits, IntKind.signed] at h
  omega
theorem u64w (n : Int) : IntKind.u64.wrap n = n % 18446744073709551616 := by simp [IntKind.wrap, IntKind.bits, IntKind.signed]
theorem w64 {n : Int} (h : -9223372036854775808 ≤ n ∧ n ≤ 9223372036854775807) : wrap64 n = n := by unfold wrap64; omega
theorem tmodp {a b : Int} (h : 0 ≤ a) : Int.tmod a b = a % b := Int.tmod_eq_emod_of_nonneg h
theorem tdivp {a b : Int} (h : 0 ≤ a) : Int.tdiv a b = a / b := Int.tdiv_eq_ediv_of_nonneg h
theorem u64_wraps (n : Int) (h₀ : 0 ≤ n) (h₁ : n < 2 ^ 64) : IntKind.u64.wrap n = n := by rw [u64w]; omega
theorem u64_mask (i : Nat) (hi : i ≤ 64) (x : Int) (h₀ : 0 ≤ x) (h₁ : x < 2 ^ 64) : Go.bits .and .u64 x (2 ^ i - 1) = x % 2 ^ i :=
  bits_mask .u64 64 (by decide) u64_wraps i hi x h₀ h₁
theorem u64_and1 {x : Int} (h₀ : 0 ≤ x) (h₁ : x ≤ 18446744073709551615) : Go.bits .and .u64 x 1 = x % 2 := u64_mask 1 (by decide) x h₀ (by omega)
theorem u64_and3 {x : Int} (h₀ : 0 ≤ x) (h₁ : x ≤ 18446744073709551615) : Go.bits .and .u64 x 3 = x % 4 := u64_mask 2 (by decide) x h₀ (by omega)
theorem u64_or1 {x : Int} (h₀ : 0 ≤ x) (h₁ : x ≤ 18446744073709551615) (h : x % 2 = 0) : Go.bits .or .u64 x 1 = x + 1 :=
  bits_join .u64 64 (by decide) u64_wraps 1 x 1 h₀ h (by omega) (by decide) (by decide) (by decide)
theorem modw (a m : Int) (h : 0 < m) (hm : m ≤ 1000000) : wrap64 (Int.tmod (IntKind.u64.wrap a) m) = (a % 18446744073709551616) % m := by
  rw [u64w, tmodp (by omega), w64]
  have := Int.emod_nonneg (a % 18446744073709551616) (b := m) (by omega)
  have := Int.emod_lt_of_pos (a % 18446744073709551616) h
  omega
theorem ev_pos {α : Type} {c : Prop} [Decidable c] {a b : Nat → Option α} {r : α} (h : c) (k : Ev a r) : Ev (fun n => if c then a n else b n) r := by
  simp only [if_pos h]; exact k
theorem ev_neg {α : Type} {c : Prop} [Decidable c] {a b : Nat → Option α} {r : α} (h : ¬ c) (k : Ev b r) : Ev (fun n => if c then a n else b n) r := by
  simp only [if_neg h]; exact k
theorem ev_ite {α : Type} {c : Prop} [Decidable c] {a b : Nat → Option α} {r : α} (h1 : c → Ev a r) (h2 : ¬ c → Ev b r) : Ev (fun n => if c then a n else b n) r := by
  by_cases h : c
  · exact ev_pos h (h1 h)
  · exact ev_neg h (h2 h)
theorem ev_bindc {α β : Type} {o : Option α} {f : Nat → α → Option β} {a : α} {r : β} (h : o = some a) (k : Ev (fun n => f n a) r) : Ev (fun n => o.bind (f n)) r := by
  subst h; exact k
theorem ev_bind {α β : Type} {g : Nat → Option α} {f : Nat → α → Option β} {a : α} {r : β} (h : Ev g a) (k : Ev (fun n => f n a) r) : Ev (fun n => (g n).bind (f n)) r := Ev.bind h k
theorem ev_now {α : Type} {r s : α} (h : s = r) : Ev (fun _ => some s) r := by subst h; exact Ev.now _
theorem ev_some {α : Type} {o : Option α} {r : α} (h : o = some r) : Ev (fun _ => o) r := ⟨0, fun _ _ => h⟩
theorem ev_one {α : Type} {g : Nat → Option α} {r : α} (h : ∀ k, g (k + 1) = some r) : Ev g r := ⟨1, fun k hk => by obtain ⟨m, rfl⟩ : ∃ m, k = m + 1 := ⟨k - 1, by omega⟩; exact h m⟩
theorem ev_two {α : Type} {g : Nat → Option α} {r : α} (h : ∀ k, g (k + 2) = some r) : Ev g r := ⟨2, fun k hk => by obtain ⟨m, rfl⟩ : ∃ m, k = m + 2 := ⟨k - 2, by omega⟩; exact h m⟩
theorem rdt_mid (pre suf : List S35) (x : S35) : rd_T35 (pre ++ x :: suf) (pre.length : Int) = x := by
  unfold rd_T35
  rw [List.getD_eq_getElem?_getD, Int.toNat_natCast, List.getElem?_append_right (by omega)]
  simp
theorem rdt_last (pre suf : List S35) (x : S35) : rd_T35 ((pre ++ [x]) ++ suf) (((pre ++ [x]).length : Int) - 1) = x := by
  have e : (((pre ++ [x]).length : Int) - 1) = (pre.length : Int) := by simp
  rw [e, List.append_assoc]
  exact rdt_mid pre suf x
theorem rdt_get {l : List S35} {j : Int} (h0 : 0 ≤ j) (h1 : j < l.length) : ∃ h : j.toNat < l.length, rd_T35 l j = l[j.toNat]'h := by
  refine ⟨by omega, ?_⟩
  unfold rd_T35
  rw [List.getD_eq_getElem?_getD, List.getElem?_eq_getElem (by omega)]
  rfl
theorem rdt_mem {l : List S35} {j : Int} (h0 : 0 ≤ j) (h1 : j < l.length) : rd_T35 l j ∈ l := by
  obtain ⟨h, e⟩ := rdt_get h0 h1
  rw [e]
  exact List.getElem_mem h
/-- Blocks side by side, from a word on; fr: is the block ahead of them free? -/
def ChainP (words : Int) : Int → Bool → List S35 → Prop
  | a, _, [] => a = words
  | a, fr, b :: l => b.f0 = a ∧ 2 ≤ b.f1 ∧ b.f1 ≤ 512 ∧ b.f1 ≤ words - a ∧ (fr = true → b.f2 = true) ∧ ChainP words (a + b.f1) (!b.f2) l
def MayW (words : Int) : Prop := 8 ≤ words ∧ words ≤ 512 ∧ words % 8 = 0
instance (words : Int) : Decidable (MayW words) := by unfold MayW; infer_instance
def MayB (l : List S35) (words : Int) : Prop := MayW words ∧ ChainP words 0 false l
theorem chain_mem {words : Int} {l : List S35} : ∀ {a : Int} {fr : Bool}, ChainP words a fr l → ∀ b ∈ l, a ≤ b.f0 ∧ 2 ≤ b.f1 ∧ b.f1 ≤ 512 ∧ b.f0 + b.f1 ≤ words := by
  induction l with
  | nil => exact fun _ b hb => absurd hb (by simp)
  | cons c l ih =>
    intro a fr h b hb
    obtain ⟨h0, h1, h2, h3, h4, h5⟩ := h
    rcases List.mem_cons.1 hb with hb | hb
    · subst hb; omega
    · have := ih h5 b hb; omega
theorem chain_up {words : Int} {l : List S35} : ∀ {a : Int} {fr : Bool}, ChainP words a fr l → l.Pairwise (fun b c => b.f0 + b.f1 ≤ c.f0) := by
  induction l with
  | nil => exact fun _ => List.Pairwise.nil
  | cons c l ih =>
    intro a fr h
    obtain ⟨h0, h1, h2, h3, h4, h5⟩ := h
    refine List.pairwise_cons.2 ⟨fun b hb => ?_, ih h5⟩
    have := chain_mem h5 b hb
    omega
theorem chain_le {words : Int} {l : List S35} : ∀ {a : Int} {fr : Bool}, ChainP words a fr l → a ≤ words := by
  induction l with
  | nil => exact fun h => Int.le_of_eq h
  | cons c l ih =>
    intro a fr h
    obtain ⟨h0, h1, h2, h3, h4, h5⟩ := h
    omega
theorem chain_len {words : Int} {l : List S35} : ∀ {a : Int} {fr : Bool}, ChainP words a fr l → a + 2 * l.length ≤ words := by
  induction l with
  | nil => intro a fr h; have : a = words := h; simp; omega
  | cons c l ih =>
    intro a fr h
    obtain ⟨h0, h1, h2, h3, h4, h5⟩ := h
    have := ih h5
    simp; omega
theorem chain_rd {words : Int} {l : List S35} (h : ChainP words 0 false l) {j : Int} (h0 : 0 ≤ j) (h1 : j < l.length) :
    0 ≤ (rd_T35 l j).f0 ∧ 2 ≤ (rd_T35 l j).f1 ∧ (rd_T35 l j).f1 ≤ 512 ∧ (rd_T35 l j).f0 + (rd_T35 l j).f1 ≤ words := chain_mem h _ (rdt_mem h0 h1)
theorem chain_lt {words : Int} {l : List S35} (h : ChainP words 0 false l) {i j : Int} (h0 : 0 ≤ i) (h1 : i < j) (h2 : j < l.length) : (rd_T35 l i).f0 + (rd_T35 l i).f1 ≤ (rd_T35 l j).f0 := by
  obtain ⟨hi, ei⟩ := rdt_get (l := l) h0 (by omega)
  obtain ⟨hj, ej⟩ := rdt_get (l := l) (j := j) (by omega) h2
  rw [ei, ej]
  exact List.pairwise_iff_getElem.1 (chain_up h) _ _ hi hj (by omega)
/-- Is the last one of some blocks free? -/
def frOf (l : List S35) : Bool := match l.getLast? with | some b => !b.f2 | none => false
theorem frOf_snoc (l : List S35) (b : S35) : frOf (l ++ [b]) = !b.f2 := by simp [frOf]
theorem frOf_pos {l : List S35} (h : frOf l = true) : ∃ m b, l = m ++ [b] ∧ b.f2 = false := by
  rcases List.eq_nil_or_concat l with rfl | ⟨m, b, rfl⟩
  · simp [frOf] at h
  · refine ⟨m, b, by simp, ?_⟩
    simpa [frOf] using h
theorem cmayw_eq (n : Int) : chain_mayWords.f n = some (decide (8 ≤ n ∧ n ≤ 512 ∧ n % 8 = 0)) := by
  unfold chain_mayWords.f
  by_cases h1 : n ≥ 8
  · rw [if_pos h1]
    by_cases h2 : n ≤ 512
    · rw [if_pos h2, tmodp (by omega)]
      congr 1
      rw [Bool.eq_iff_iff, beq_iff_eq, decide_eq_true_iff]
      exact ⟨fun h => ⟨h1, h2, h⟩, fun h => h.2.2⟩
    · rw [if_neg h2, decide_eq_false (by omega)]
  · rw [if_neg h1, decide_eq_false (by omega)]
theorem bmay_eq (n : Int) : block_May.f n = some (decide (2 ≤ n ∧ n ≤ 512)) := by
  unfold block_May.f
  by_cases h2 : n ≥ 2
  · rw [if_pos h2]; congr 1; rw [Bool.eq_iff_iff]; simp only [decide_eq_true_iff]; omega
  · rw [if_neg h2, decide_eq_false (by omega)]
theorem cmay_l0 {words : Int} (hw : words ≤ 100000) (suf : List S35) : ∀ (pre : List S35) (a : Int) (fr : Bool), 0 ≤ a → a ≤ words → (pre ++ suf).length ≤ 100000 →
    ∃ b, Ev (fun k => chain_May.l0 k words a fr (pre ++ suf) ((pre ++ suf).length : Int) (pre.length : Int)) b ∧ (b = true ↔ ChainP words a fr suf) := by
  induction suf with
  | nil =>
    intro pre a fr h0 h1 hl
    refine ⟨a == words, Ev.step (fun k => by rw [chain_May.l0]) (ev_neg (by simp) (Ev.now _)), ?_⟩
    rw [beq_iff_eq]; exact Iff.rfl
  | cons x suf ih =>
    intro pre a fr h0 h1 hl
    have e : pre ++ x :: suf = (pre ++ [x]) ++ suf := by simp
    have hlen2 : ((pre ++ [x]).length : Int) = (pre.length : Int) + 1 := by simp
    have hlt : (pre.length : Int) < ((pre ++ x :: suf).length : Int) := by simp; omega
    have w1 : wrap64 ((pre.length : Int) + 1) = (pre.length : Int) + 1 := w64 (by simp at hl; omega)
    have w2 : wrap64 (words - a) = words - a := w64 (by omega)
    by_cases c1 : x.f0 = a
    · by_cases c2 : 2 ≤ x.f1 ∧ x.f1 ≤ 512
      · by_cases c4 : fr = true ∧ x.f2 = false
        · refine ⟨false, Ev.step (fun k => by rw [chain_May.l0]) ?_, ⟨fun h => (by cases h), fun h => by have := h.2.2.2.2.1 c4.1; rw [c4.2] at this; cases this⟩⟩
          rw [rdt_mid]
          exact ev_pos hlt (ev_pos (by omega) (ev_pos hlt (ev_pos c1 (ev_bindc (bmay_eq _) (ev_pos (by simp [c2]) (ev_pos c4.1 (ev_neg (by rw [c4.2]; decide) (Ev.now _))))))))
        · by_cases c3 : x.f1 > words - a
          · refine ⟨false, Ev.step (fun k => by rw [chain_May.l0]) ?_, ⟨fun h => (by cases h), fun h => by have := h.2.2.2.1; omega⟩⟩
            rw [rdt_mid, w2]
            refine ev_pos hlt (ev_pos (by omega) (ev_pos hlt (ev_pos c1 (ev_bindc (bmay_eq _) (ev_pos (by simp [c2]) ?_)))))
            exact ev_ite (fun _ => ev_ite (fun _ => ev_pos c3 (Ev.now _)) (fun _ => Ev.now _)) (fun _ => ev_pos c3 (Ev.now _))
          · have w3 : wrap64 (a + x.f1) = a + x.f1 := w64 (by omega)
            obtain ⟨b, hb, hi⟩ := ih (pre ++ [x]) (a + x.f1) (!x.f2) (by omega) (by omega) (by rw [← e]; exact hl)
            rw [hlen2, ← e] at hb
            refine ⟨b, Ev.step (fun k => by rw [chain_May.l0]) ?_, ?_⟩
            · rw [rdt_mid, w2, w1, w3]
              refine ev_pos hlt (ev_pos (by omega) (ev_pos hlt (ev_pos c1 (ev_bindc (bmay_eq _) (ev_pos (by simp [c2]) ?_)))))
              refine ev_ite (fun hf => ?_) (fun _ => ev_neg c3 hb)
              refine ev_pos ?_ (ev_neg c3 hb)
              cases hx : x.f2 with
              | true => rfl
              | false => exact absurd ⟨hf, hx⟩ c4
            · rw [hi]
              constructor
              · intro h
                exact ⟨c1, c2.1, c2.2, by omega, fun hf => by
                  cases hx : x.f2 with
                  | true => rfl
                  | false => exact absurd ⟨hf, hx⟩ c4, h⟩
              · exact fun h => h.2.2.2.2.2
      · refine ⟨false, Ev.step (fun k => by rw [chain_May.l0]) ?_, ⟨fun h => (by cases h), fun h => absurd ⟨h.2.1, h.2.2.1⟩ c2⟩⟩
        rw [rdt_mid]
        exact ev_pos hlt (ev_pos (by omega) (ev_pos hlt (ev_pos c1 (ev_bindc (bmay_eq _) (ev_neg (by simp; omega) (Ev.now _))))))
    · refine ⟨false, Ev.step (fun k => by rw [chain_May.l0]) ?_, ⟨fun h => (by cases h), fun h => absurd h.1 c1⟩⟩
      rw [rdt_mid]
      exact ev_pos hlt (ev_pos (by omega) (ev_pos hlt (ev_neg c1 (Ev.now _))))
theorem cmay_ev {l : List S35} (words : Int) (hl : l.length ≤ 100000) : ∃ b, Ev (fun k => chain_May.f k l words) b ∧ (b = true ↔ MayB l words) := by
  unfold chain_May.f
  by_cases h : 8 ≤ words ∧ words ≤ 512 ∧ words % 8 = 0
  · obtain ⟨b, hb, hi⟩ := cmay_l0 (words := words) (by omega) l [] 0 false (by omega) (by omega) hl
    refine ⟨b, ev_bindc (cmayw_eq words) (ev_pos (by simp [h]) hb), hi.trans ⟨fun hh => ⟨h, hh⟩, fun hh => hh.2⟩⟩
  · exact ⟨false, ev_bindc (cmayw_eq words) (ev_neg (by simpa using h) (Ev.now _)), ⟨fun hh => (by cases hh), fun hh => absurd hh.1 h⟩⟩
theorem cmay_yes {l : List S35} {words : Int} (hl : l.length ≤ 100000) (h : MayB l words) : Ev (fun k => chain_May.f k l words) true := by
  obtain ⟨b, hb, hi⟩ := cmay_ev words hl
  rwa [hi.2 h] at hb
theorem cmay_no {l : List S35} {words : Int} (hl : l.length ≤ 100000) (h : ¬ MayB l words) : Ev (fun k => chain_May.f k l words) false := by
  obtain ⟨b, hb, hi⟩ := cmay_ev words hl
  cases b with
  | true => exact absurd (hi.1 rfl) h
  | false => exact hb
theorem blk_ext {a b : S35} (h0 : a.f0 = b.f0) (h1 : a.f1 = b.f1) (h2 : a.f2 = b.f2) : a = b := by
  cases a; cases b; simp at h0 h1 h2; simp [h0, h1, h2]
theorem word_eq (n : Int) (u : Bool) : block_Word.f n u = some (if 2 ≤ n ∧ n ≤ 512 then 2 * n + (if u then 1 else 0) else 0) := by
  unfold block_Word.f block_May.f
  by_cases h : 2 ≤ n ∧ n ≤ 512
  · rw [if_pos (by omega), if_pos h]
    simp only [Option.bind_some]
    rw [if_pos (by simp; omega)]
    have e : IntKind.u64.wrap (IntKind.u64.wrap n * 2) = 2 * n := by rw [u64w, u64w]; omega
    rw [e]
    cases u
    · simp
    · simp only [if_true]; rw [u64_or1 (by omega) (by omega) (by omega)]
  · rw [if_neg h]
    by_cases h2 : n ≥ 2
    · rw [if_pos h2]; simp only [Option.bind_some]; rw [if_neg (by simp; omega)]
    · rw [if_neg h2]; rfl
/-- The words that the statement speaks of. -/
theorem maysize_eq (n : Int) : darningref4_MaySize.f n = some (decide (2 ≤ n ∧ n ≤ 512)) := by
  unfold darningref4_MaySize.f
  by_cases h2 : n ≥ 2
  · rw [if_pos h2]; congr 1; rw [Bool.eq_iff_iff]; simp only [decide_eq_true_iff]; omega
  · rw [if_neg h2, decide_eq_false (by omega)]
theorem rmayw_eq (n : Int) : darningref4_mayWords.f n = some (decide (8 ≤ n ∧ n ≤ 512 ∧ n % 8 = 0)) := by
  unfold darningref4_mayWords.f
  by_cases h1 : n ≥ 8
  · rw [if_pos h1]
    by_cases h2 : n ≤ 512
    · rw [if_pos h2, tmodp (by omega)]
      congr 1
      rw [Bool.eq_iff_iff, beq_iff_eq, decide_eq_true_iff]
      exact ⟨fun h => ⟨h1, h2, h⟩, fun h => h.2.2⟩
    · rw [if_neg h2, decide_eq_false (by omega)]
  · rw [if_neg h1, decide_eq_false (by omega)]
theorem mayb_l0 {words : Int} (hw : words ≤ 512) (suf : List S35) : ∀ (pre : List S35) (a : Int), 0 ≤ a → a ≤ words → (pre ++ suf).length ≤ 100000 →
    ∃ b, Ev (fun k => darningref4_MayBlocks.l0 k (pre ++ suf) words a (pre ++ suf) ((pre ++ suf).length : Int) (pre.length : Int)) b ∧ (b = true ↔ ChainP words a (frOf pre) suf) := by
  induction suf with
  | nil =>
    intro pre a h0 h1 hl
    refine ⟨a == words, Ev.step (fun k => by rw [darningref4_MayBlocks.l0]) (ev_neg (by simp) (Ev.now _)), ?_⟩
    rw [beq_iff_eq]; exact Iff.rfl
  | cons x suf ih =>
    intro pre a h0 h1 hl
    have e : pre ++ x :: suf = (pre ++ [x]) ++ suf := by simp
    have hlen2 : ((pre ++ [x]).length : Int) = (pre.length : Int) + 1 := by simp
    have hlt : (pre.length : Int) < ((pre ++ x :: suf).length : Int) := by simp; omega
    have w1 : wrap64 ((pre.length : Int) + 1) = (pre.length : Int) + 1 := w64 (by simp at hl; omega)
    have w2 : wrap64 (words - a) = words - a := w64 (by omega)
    by_cases c1 : x.f0 = a
    · by_cases c2 : 2 ≤ x.f1 ∧ x.f1 ≤ 512
      · by_cases c3 : x.f1 > words - a
        · refine ⟨false, Ev.step (fun k => by rw [darningref4_MayBlocks.l0]) ?_, ⟨fun h => (by cases h), fun h => by have := h.2.2.2.1; omega⟩⟩
          rw [rdt_mid, w2]
          exact ev_pos hlt (ev_pos (by omega) (ev_pos hlt (ev_pos c1 (ev_bindc (maysize_eq _) (ev_pos (by simp [c2]) (ev_pos c3 (Ev.now _)))))))
        · have w3 : wrap64 (a + x.f1) = a + x.f1 := w64 (by omega)
          obtain ⟨b, hb, hi⟩ := ih (pre ++ [x]) (a + x.f1) (by omega) (by omega) (by rw [← e]; exact hl)
          rw [hlen2, ← e] at hb
          rw [frOf_snoc] at hi
          by_cases c4 : frOf pre = true ∧ x.f2 = false
          · obtain ⟨m, y, hm, hy⟩ := frOf_pos c4.1
            refine ⟨false, Ev.step (fun k => by rw [darningref4_MayBlocks.l0]) ?_, ⟨fun h => (by cases h), fun h => by have := h.2.2.2.2.1 c4.1; rw [c4.2] at this; cases this⟩⟩
            rw [rdt_mid, w2, w1, w3]
            refine ev_pos hlt (ev_pos (by omega) (ev_pos hlt (ev_pos c1 (ev_bindc (maysize_eq _) (ev_pos (by simp [c2]) (ev_neg c3 ?_))))))
            have hp : 0 < (pre.length : Int) := by rw [hm, List.length_append, List.length_singleton]; omega
            refine ev_pos hp (ev_neg (by rw [c4.2]; decide) ?_)
            have w4 : wrap64 ((pre.length : Int) - 1) = (pre.length : Int) - 1 := w64 (by simp at hl; omega)
            rw [w4]
            refine ev_pos (by omega) (ev_pos (by omega) (ev_neg ?_ (Ev.now _)))
            have e2 : rd_T35 (pre ++ x :: suf) ((pre.length : Int) - 1) = y := by rw [hm]; exact rdt_last m (x :: suf) y
            rw [e2, hy]; decide
          · refine ⟨b, Ev.step (fun k => by rw [darningref4_MayBlocks.l0]) ?_, ?_⟩
            · rw [rdt_mid, w2, w1, w3]
              refine ev_pos hlt (ev_pos (by omega) (ev_pos hlt (ev_pos c1 (ev_bindc (maysize_eq _) (ev_pos (by simp [c2]) (ev_neg c3 ?_))))))
              refine ev_ite (fun hp => ev_ite (fun _ => hb) (fun hu => ?_)) (fun _ => hb)
              have w4 : wrap64 ((pre.length : Int) - 1) = (pre.length : Int) - 1 := w64 (by simp at hl; omega)
              rw [w4]
              refine ev_pos (by omega) (ev_pos (by omega) (ev_pos ?_ hb))
              rcases List.eq_nil_or_concat pre with hn | ⟨m, y, hm⟩
              · subst hn; simp at hp
              · rw [List.concat_eq_append] at hm
                have e2 : rd_T35 (pre ++ x :: suf) ((pre.length : Int) - 1) = y := by rw [hm]; exact rdt_last m (x :: suf) y
                rw [e2]
                have hfr : frOf pre = !y.f2 := by rw [hm, frOf_snoc]
                rw [hfr] at c4
                cases hy : y.f2 with
                | true => rfl
                | false =>
                  exact absurd ⟨by rw [hy]; rfl, by simpa using hu⟩ c4
            · rw [hi]
              constructor
              · intro h
                exact ⟨c1, c2.1, c2.2, by omega, fun hf => by
                  cases hx : x.f2 with
                  | true => rfl
                  | false => exact absurd ⟨hf, hx⟩ c4, h⟩
              · exact fun h => h.2.2.2.2.2
      · refine ⟨false, Ev.step (fun k => by rw [darningref4_MayBlocks.l0]) ?_, ⟨fun h => (by cases h), fun h => absurd ⟨h.2.1, h.2.2.1⟩ c2⟩⟩
        rw [rdt_mid]
        exact ev_pos hlt (ev_pos (by omega) (ev_pos hlt (ev_pos c1 (ev_bindc (maysize_eq _) (ev_neg (by simp; omega) (Ev.now _))))))
    · refine ⟨false, Ev.step (fun k => by rw [darningref4_MayBlocks.l0]) ?_, ⟨fun h => (by cases h), fun h => absurd h.1 c1⟩⟩
      rw [rdt_mid]
      exact ev_pos hlt (ev_pos (by omega) (ev_pos hlt (ev_neg c1 (Ev.now _))))
theorem mayb_ev {l : List S35} (words : Int) (hl : l.length ≤ 100000) : ∃ b, Ev (fun k => darningref4_MayBlocks.f k l words) b ∧ (b = true ↔ MayB l words) := by
  unfold darningref4_MayBlocks.f
  by_cases h : 8 ≤ words ∧ words ≤ 512 ∧ words % 8 = 0
  · obtain ⟨b, hb, hi⟩ := mayb_l0 h.2.1 l [] 0 (by omega) (by omega) hl
    refine ⟨b, ev_bindc (rmayw_eq words) (ev_pos (by simp [h]) hb), hi.trans ⟨fun hh => ⟨h, hh⟩, fun hh => hh.2⟩⟩
  · exact ⟨false, ev_bindc (rmayw_eq words) (ev_neg (by simpa using h) (Ev.now _)), ⟨fun hh => (by cases hh), fun hh => absurd hh.1 h⟩⟩
theorem mayb_yes {l : List S35} {words : Int} (hl : l.length ≤ 100000) (h : MayB l words) : Ev (fun k => darningref4_MayBlocks.f k l words) true := by
  obtain ⟨b, hb, hi⟩ := mayb_ev words hl
  rwa [hi.2 h] at hb
theorem mayb_no {l : List S35} {words : Int} (hl : l.length ≤ 100000) (h : ¬ MayB l words) : Ev (fun k => darningref4_MayBlocks.f k l words) false := by
  obtain ⟨b, hb, hi⟩ := mayb_ev words hl
  cases b with
  | true => exact absurd (hi.1 rfl) h
  | false => exact hb
def sumS : List S35 → Int
  | [] => 0
  | b :: l => b.f1 + sumS l
/-- What is behind some blocks of blocks side by side. -/
theorem chain_app {words : Int} (suf : List S35) (pre : List S35) : ∀ {a : Int} {fr : Bool}, ChainP words a fr (pre ++ suf) → ∃ fr', ChainP words (a + sumS pre) fr' suf := by
  induction pre with
  | nil => intro a fr h; exact ⟨fr, by show ChainP words (a + 0) fr suf; rw [Int.add_zero]; exact h⟩
  | cons b pre ih =>
    intro a fr h
    obtain ⟨c0, c1, c2, c3, c4, c5⟩ := h
    obtain ⟨fr', h'⟩ := ih c5
    refine ⟨fr', ?_⟩
    show ChainP words (a + (b.f1 + sumS pre)) fr' suf
    rw [← Int.add_assoc]; exact h'
theorem chain_total {words : Int} (l : List S35) {a : Int} {fr : Bool} (h : ChainP words a fr l) : words = a + sumS l := by
  obtain ⟨fr', h'⟩ := chain_app [] l (by rw [List.append_nil]; exact h)
  have h' : a + sumS l = words := h'
  omega
theorem set_mid (pre suf : List S35) (x y : S35) : (pre ++ x :: suf).set pre.length y = pre ++ y :: suf := by
  rw [List.set_append, if_neg (by omega), Nat.sub_self, List.set_cons_zero]
theorem split_two {l : List S35} {j : Int} (h0 : 0 ≤ j) (h1 : j + 1 < l.length) : ∃ pre x y suf, l = pre ++ x :: y :: suf ∧ (pre.length : Int) = j := by
  refine ⟨l.take j.toNat, l[j.toNat]'(by omega), l[j.toNat + 1]'(by omega), l.drop (j.toNat + 2), ?_, by rw [List.length_take]; omega⟩
  rw [← List.drop_eq_getElem_cons (by omega), ← List.drop_eq_getElem_cons (by omega)]
  exact (List.take_append_drop _ _).symm
/-- What stands ahead of a list behind some blocks: a free one? -/
def lastFr : Bool → List S35 → Bool
  | fr, [] => fr
  | _, b :: l => lastFr (!b.f2) l
theorem lastFr_app (P R : List S35) : ∀ fr, lastFr fr (P ++ R) = lastFr (lastFr fr P) R := by
  induction P with
  | nil => intro fr; rfl
  | cons b P ih => intro fr; exact ih _
theorem sumS_app (P R : List S35) : sumS (P ++ R) = sumS P + sumS R := by
  induction P with
  | nil => show sumS R = 0 + sumS R; omega
  | cons b P ih => show b.f1 + sumS (P ++ R) = (b.f1 + sumS P) + sumS R; rw [ih]; omega
theorem chain_snd {words : Int} (P R : List S35) : ∀ {a : Int} {fr : Bool}, ChainP words a fr (P ++ R) → ChainP words (a + sumS P) (lastFr fr P) R := by
  induction P with
  | nil => intro a fr h; show ChainP words (a + 0) fr R; rw [Int.add_zero]; exact h
  | cons b P ih =>
    intro a fr h
    obtain ⟨h0, h1, h2, h3, h4, h5⟩ := h
    have := ih h5
    show ChainP words (a + (b.f1 + sumS P)) (lastFr (!b.f2) P) R
    rw [← Int.add_assoc]; exact this
theorem chain_re {words : Int} (P R R' : List S35) : ∀ {a : Int} {fr : Bool}, ChainP words a fr (P ++ R) → ChainP words (a + sumS P) (lastFr fr P) R' → ChainP words a fr (P ++ R') := by
  induction P with
  | nil => intro a fr _ h; have h : ChainP words (a + 0) fr R' := h; rw [Int.add_zero] at h; exact h
  | cons b P ih =>
    intro a fr h h'
    obtain ⟨h0, h1, h2, h3, h4, h5⟩ := h
    have h' : ChainP words (a + (b.f1 + sumS P)) (lastFr (!b.f2) P) R' := h'
    rw [← Int.add_assoc] at h'
    exact ⟨h0, h1, h2, h3, h4, ih h5 h'⟩
theorem chain_fr {words : Int} {Q : List S35} {a : Int} {fr : Bool} (fr2 : Bool) (h : ChainP words a fr Q) (hq : ∀ q Q', Q = q :: Q' → q.f2 = true) : ChainP words a fr2 Q := by
  cases Q with
  | nil => exact h
  | cons q Q =>
    obtain ⟨h0, h1, h2, h3, h4, h5⟩ := h
    exact ⟨h0, h1, h2, h3, fun _ => hq q Q rfl, h5⟩
theorem sumS_nn {words : Int} (P R : List S35) {a : Int} {fr : Bool} (h : ChainP words a fr (P ++ R)) : 2 * (P.length : Int) ≤ sumS P ∧ a + sumS P + 2 * R.length ≤ words := by
  constructor
  · have : ∀ b ∈ P, 2 ≤ b.f1 := fun b hb => (chain_mem h b (List.mem_append_left _ hb)).2.1
    clear h
    induction P with
    | nil => show 2 * ((0 : Nat) : Int) ≤ 0; omega
    | cons b P ih =>
      have h1 := ih (fun c hc => this c (List.mem_cons_of_mem _ hc))
      have h2 := this b List.mem_cons_self
      show 2 * (((P.length + 1 : Nat)) : Int) ≤ b.f1 + sumS P
      omega
  · exact chain_len (chain_snd P R h)
/-- Some blocks in the midst made one free one. -/
theorem chain_join {words : Int} {P M Q : List S35} {x : S35} {a : Int} {fr : Bool} (hw : words ≤ 512) (ha : 0 ≤ a) (h : ChainP words a fr (P ++ (x :: M) ++ Q)) (hp : lastFr fr P = false)
    (hq : ∀ q Q', Q = q :: Q' → q.f2 = true) : x.f0 = a + sumS P ∧ ChainP words a fr (P ++ (⟨x.f0, sumS (x :: M), false⟩ : S35) :: Q) := by
  rw [List.append_assoc] at h
  have h1 := chain_snd P _ h
  rw [hp] at h1
  have n1 := sumS_nn P _ h
  have n2 := sumS_nn (x :: M) Q h1
  have e0 : x.f0 = a + sumS P := h1.1
  refine ⟨e0, chain_re P _ _ h ?_⟩
  rw [hp]
  simp only [List.length_cons] at n2
  refine ⟨e0, by show 2 ≤ sumS (x :: M); omega, by show sumS (x :: M) ≤ 512; omega, by show sumS (x :: M) ≤ words - (a + sumS P); omega, (fun hf => nomatch hf), ?_⟩
  exact chain_fr true (chain_snd (x :: M) Q h1) hq
/-- The blocks may be, of as many words as they have. -/
def IsB (l : List S35) : Prop := MayB l (sumS l)
theorem isb_of {l : List S35} {w : Int} (h : MayB l w) : w = sumS l := by have := chain_total l h.2; omega
theorem mayb0 (l : List S35) : ¬ MayB l 0 := by
  intro h
  have := h.1
  unfold MayW at this
  omega
-- sums of sizes, as the program and the reference count them
theorem mwords_l0 (l : List S35) (hl : l.length ≤ 100000) (suf : List S35) : ∀ pre : List S35, l = pre ++ suf → (∀ b ∈ pre, 2 ≤ b.f1 ∧ b.f1 ≤ 512) → 0 ≤ sumS pre → sumS pre ≤ 1024 →
    ∃ t, Ev (fun k => merge_words.l0 k (sumS pre) l (l.length : Int) (pre.length : Int)) t ∧ ((∃ w, MayB l w) → t = sumS l) ∧ (t = sumS l ∨ t = 0) ∧ ((∀ b ∈ l, 2 ≤ b.f1 ∧ b.f1 ≤ 512) → sumS l ≤ 512 → t = sumS l) := by
  induction suf with
  | nil =>
    intro pre e hp h0 h1
    rw [List.append_nil] at e
    subst e
    exact ⟨sumS l, Ev.step (fun k => by rw [merge_words.l0]) (ev_neg (by simp) (Ev.now _)), fun _ => rfl, .inl rfl, fun _ _ => rfl⟩
  | cons x suf ih =>
    intro pre e hp h0 h1
    have hlt : (pre.length : Int) < (l.length : Int) := by rw [e]; simp; omega
    have ex : rd_T35 l (pre.length : Int) = x := by rw [e]; exact rdt_mid pre suf x
    by_cases c1 : 2 ≤ x.f1 ∧ x.f1 ≤ 512
    · by_cases c2 : sumS pre > 512
      · have big : (∀ b ∈ l, 2 ≤ b.f1 ∧ b.f1 ≤ 512) → ¬ sumS l ≤ 512 := by
          intro hb hs
          rw [e, sumS_app] at hs
          have : ∀ m : List S35, (∀ b ∈ m, 2 ≤ b.f1 ∧ b.f1 ≤ 512) → 0 ≤ sumS m := by
            intro m
            induction m with
            | nil => intro _; exact Int.le_refl _
            | cons c m ihm => intro hc; have q1 := hc c List.mem_cons_self; have q2 := ihm (fun d hd => hc d (List.mem_cons_of_mem _ hd)); show 0 ≤ c.f1 + sumS m; omega
          have q := this (x :: suf) (fun b hb' => hb b (by rw [e]; exact List.mem_append_right _ hb'))
          omega
        refine ⟨0, Ev.step (fun k => by rw [merge_words.l0]) ?_, fun ⟨w, hw⟩ => ?_, .inr rfl, fun hb hs => absurd hs (big hb)⟩
        · rw [ex]
          exact ev_pos hlt (ev_pos (by omega) (ev_pos hlt (ev_bindc (bmay_eq _) (ev_pos (by simp [c1]) (ev_pos c2 (Ev.now _))))))
        · have ht := chain_total l hw.2
          have hw1 := hw.1
          unfold MayW at hw1
          exact absurd (by omega : sumS l ≤ 512) (big (fun b hb => ⟨(chain_mem hw.2 b hb).2.1, (chain_mem hw.2 b hb).2.2.1⟩))
      · obtain ⟨t, ht, hi⟩ := ih (pre ++ [x]) (by rw [e]; simp) (by
          intro b hb
          rcases List.mem_append.1 hb with hb | hb
          · exact hp b hb
          · rw [List.mem_singleton.1 hb]; exact c1) (by rw [sumS_app]; show 0 ≤ sumS pre + (x.f1 + 0); omega) (by rw [sumS_app]; show sumS pre + (x.f1 + 0) ≤ 1024; omega)
        have es : sumS (pre ++ [x]) = sumS pre + x.f1 := by rw [sumS_app]; show sumS pre + (x.f1 + 0) = _; omega
        refine ⟨t, Ev.step (fun k => by rw [merge_words.l0]) ?_, hi⟩
        rw [ex, w64 (n := sumS pre + x.f1) (by omega), w64 (n := (pre.length : Int) + 1) (by omega)]
        refine ev_pos hlt (ev_pos (by omega) (ev_pos hlt (ev_bindc (bmay_eq _) (ev_pos (by simp [c1]) (ev_neg c2 ?_)))))
        rw [es] at ht
        simpa using ht
    · refine ⟨0, Ev.step (fun k => by rw [merge_words.l0]) ?_, fun ⟨w, hw⟩ => ?_, .inr rfl, fun hb _ => absurd (hb x (by rw [e]; simp)) c1⟩
      · rw [ex]
        exact ev_pos hlt (ev_pos (by omega) (ev_pos hlt (ev_bindc (bmay_eq _) (ev_neg (by simp; omega) (Ev.now _)))))
      · have := chain_mem hw.2 x (by rw [e]; simp)
        omega
theorem mwords_ev {l : List S35} (hl : l.length ≤ 100000) : ∃ t, Ev (fun k => merge_words.f k l) t ∧ ((∃ w, MayB l w) → t = sumS l) ∧ (t = sumS l ∨ t = 0) ∧ ((∀ b ∈ l, 2 ≤ b.f1 ∧ b.f1 ≤ 512) → sumS l ≤ 512 → t = sumS l) :=
  mwords_l0 l hl l [] rfl (fun b hb => nomatch hb) (Int.le_refl _) (by show (0 : Int) ≤ 1024; omega)
theorem mwords_sum {l : List S35} (hl : l.length ≤ 100000) (h : ∀ b ∈ l, 2 ≤ b.f1 ∧ b.f1 ≤ 512) (hs : sumS l ≤ 512) : Ev (fun k => merge_words.f k l) (sumS l) := by
  obtain ⟨t, ht, _, _, h3⟩ := mwords_ev hl
  rwa [h3 h hs] at ht
-- slices.Concat of three
theorem grow_eq {n : Int} (h0 : 0 ≤ n) (h1 : n ≤ 1000000) : api_Block_81.f n = some [] := by
  unfold api_Block_81.f
  rw [w64 (by omega), if_neg (by omega)]
  by_cases c : n > 0
  · rw [if_pos c, if_pos h0, if_pos (by simp only [List.length_nil]; omega), Option.bind_some, if_pos (Int.natCast_nonneg _)]
    simp
  · rw [if_neg c]
theorem concat_ev (a b c : List S35) (h : a.length + b.length + c.length ≤ 100000) : Ev (fun k => api_Block_59.f k [a, b, c]) (a ++ b ++ c) := by
  unfold api_Block_59.f
  have L : (([a, b, c] : List (List S35)).length : Int) = 3 := rfl
  have r0 : rd_L3 [a, b, c] 0 = a := rfl
  have r1 : rd_L3 [a, b, c] 1 = b := rfl
  have r2 : rd_L3 [a, b, c] 2 = c := rfl
  rw [L]
  have w1 : wrap64 ((0 : Int) + 1) = 1 := w64 (by decide)
  have w2 : wrap64 ((1 : Int) + 1) = 2 := w64 (by decide)
  have w3 : wrap64 ((2 : Int) + 1) = 3 := w64 (by decide)
  have hl : (([a, b, c] : List (List S35)).length : Int) = 3 := rfl
  refine Ev.step (fun k => by rw [api_Block_59.l0]) ?_
  rw [r0, w1, hl, w64 (n := (0 : Int) + (a.length : Int)) (by omega)]
  refine ev_pos (by decide) (ev_pos (by decide) (ev_pos (by decide) (ev_neg (by omega) ?_)))
  refine Ev.step (fun k => by rw [api_Block_59.l0]) ?_
  rw [r1, w2, hl, w64 (n := (0 : Int) + (a.length : Int) + (b.length : Int)) (by omega)]
  refine ev_pos (by decide) (ev_pos (by decide) (ev_pos (by decide) (ev_neg (by omega) ?_)))
  refine Ev.step (fun k => by rw [api_Block_59.l0]) ?_
  rw [r2, w3, hl, w64 (n := (0 : Int) + (a.length : Int) + (b.length : Int) + (c.length : Int)) (by omega)]
  refine ev_pos (by decide) (ev_pos (by decide) (ev_pos (by decide) (ev_neg (by omega) ?_)))
  refine Ev.step (fun k => by rw [api_Block_59.l0]) ?_
  refine ev_neg (by decide) (ev_bindc (grow_eq (by omega) (by omega)) ?_)
  rw [hl]
  refine Ev.step (fun k => by rw [api_Block_59.l1]) ?_
  rw [r0, w1, hl]
  refine ev_pos (by decide) (ev_pos (by decide) (ev_pos (by decide) (ev_pos (by simp only [List.length_nil]; omega) ?_)))
  refine Ev.step (fun k => by rw [api_Block_59.l1]) ?_
  rw [r1, w2, hl, List.nil_append]
  refine ev_pos (by decide) (ev_pos (by decide) (ev_pos (by decide) (ev_pos (by omega) ?_)))
  refine Ev.step (fun k => by rw [api_Block_59.l1]) ?_
  rw [r2, w3, hl]
  refine ev_pos (by decide) (ev_pos (by decide) (ev_pos (by decide) (ev_pos (by rw [List.length_append]; omega) ?_)))
  refine Ev.step (fun k => by rw [api_Block_59.l1]) ?_
  exact ev_neg (by decide) (Ev.now _)
-- which blocks become one
def mFrom (l : List S35) (i : Int) : Int := if i > 0 ∧ (rd_T35 l (i - 1)).f2 = false then i - 1 else i
def mTo (l : List S35) (i : Int) : Int := if i + 1 < l.length ∧ (rd_T35 l (i + 1)).f2 = false then i + 2 else i + 1
def Can (l : List S35) (i : Int) : Prop := IsB l ∧ 0 ≤ i ∧ i < l.length ∧ (rd_T35 l i).f2 = true
theorem around_yes {l : List S35} {i : Int} (hl : l.length ≤ 100000) (h : Can l i) : Ev (fun k => merge_around.f k l i) (mFrom l i, mTo l i, true) := by
  obtain ⟨h1, h2, h3, h4⟩ := h
  unfold merge_around.f
  obtain ⟨t, ht, hi, _⟩ := mwords_ev hl
  rw [hi ⟨_, h1⟩] at ht
  refine ev_bind ht (ev_bind (cmay_yes hl h1) (ev_pos rfl (ev_neg (by omega) (ev_neg (by omega) (ev_pos h2 (ev_pos h3 ?_))))))
  rw [h4]
  refine Ev.step (fun k => by rw [merge_around.j0]) ?_
  refine ev_neg (by decide) ?_
  rw [w64 (n := i - 1) (by omega), w64 (n := i + 1) (by omega)]
  have go : ∀ b : Bool, (b = true ↔ (i > 0 ∧ (rd_T35 l (i - 1)).f2 = false)) → Ev (fun k => merge_around.j1 k l i (i + 1) b) (mFrom l i, mTo l i, true) := by
    intro b hb
    refine Ev.step (fun k => by rw [merge_around.j1]) ?_
    rw [w64 (n := i - 1) (by omega), w64 (n := i + 1 + 1) (by omega)]
    unfold mFrom mTo
    refine ev_ite (fun c => ?_) (fun c => ?_)
    · rw [if_pos (hb.1 c)]
      refine ev_ite (fun d => ev_pos (by omega) (ev_ite (fun e => ?_) (fun e => ?_))) (fun d => ?_)
      · rw [if_neg (by simp [e])]; exact Ev.now _
      · rw [if_pos ⟨d, by simpa using e⟩, show i + 1 + 1 = i + 2 from by omega]; exact Ev.now _
      · rw [if_neg (fun hh => d hh.1)]; exact Ev.now _
    · rw [if_neg (fun hh => c (hb.2 hh))]
      refine ev_ite (fun d => ev_pos (by omega) (ev_ite (fun e => ?_) (fun e => ?_))) (fun d => ?_)
      · rw [if_neg (by simp [e])]; exact Ev.now _
      · rw [if_pos ⟨d, by simpa using e⟩, show i + 1 + 1 = i + 2 from by omega]; exact Ev.now _
      · rw [if_neg (fun hh => d hh.1)]; exact Ev.now _
  refine ev_ite (fun c => ev_pos (by omega) (ev_pos (by omega) (go _ ?_))) (fun c => go _ ?_)
  · simp [c]
  · simp [c]
theorem around_no {l : List S35} {i : Int} (hl : l.length ≤ 100000) (h : ¬ Can l i) : Ev (fun k => merge_around.f k l i) (0, 0, false) := by
  unfold merge_around.f
  obtain ⟨t, ht, hi, ho, _⟩ := mwords_ev hl
  have out : Ev (fun k => merge_around.j0 k l i true) (0, 0, false) := by
    refine Ev.step (fun k => by rw [merge_around.j0]) ?_
    exact ev_pos rfl (Ev.now _)
  refine ev_bind ht ?_
  by_cases hm : MayB l t
  · have e : t = sumS l := isb_of hm
    refine ev_bind (cmay_yes hl hm) (ev_pos rfl (ev_ite (fun _ => out) (fun c1 => ev_ite (fun _ => out) (fun c2 => ev_pos (by omega) (ev_pos (by omega) ?_)))))
    have : (rd_T35 l i).f2 = false := by
      cases hu : (rd_T35 l i).f2 with
      | false => rfl
      | true => exact absurd ⟨by unfold IsB; rw [← e]; exact hm, by omega, by omega, hu⟩ h
    rw [this]; exact out
  · exact ev_bind (cmay_no hl hm) (ev_neg (by decide) out)
theorem from_to {l : List S35} {i : Int} (h : 0 ≤ i ∧ i < l.length) : 0 ≤ mFrom l i ∧ mFrom l i ≤ i ∧ i < mTo l i ∧ mTo l i ≤ l.length := by
  unfold mFrom mTo
  refine ⟨?_, ?_, ?_, ?_⟩
  · split <;> omega
  · split <;> omega
  · split <;> omega
  · split <;> omega
def mP (l : List S35) (i : Int) : List S35 := l.take (mFrom l i).toNat
def mM (l : List S35) (i : Int) : List S35 := (l.take (mTo l i).toNat).drop (mFrom l i).toNat
def mQ (l : List S35) (i : Int) : List S35 := l.drop (mTo l i).toNat
theorem m_split {l : List S35} {i : Int} (h : 0 ≤ i ∧ i < l.length) : l = mP l i ++ mM l i ++ mQ l i := by
  have hf := from_to h
  unfold mP mM mQ
  rw [show l.take (mFrom l i).toNat = (l.take (mTo l i).toNat).take (mFrom l i).toNat from by rw [List.take_take, Nat.min_eq_left (by omega)], List.take_append_drop, List.take_append_drop]
def mrg (l : List S35) (i : Int) : List S35 := mP l i ++ [⟨(rd_T35 l (mFrom l i)).f0, sumS (mM l i), false⟩] ++ mQ l i
theorem mM_good {l : List S35} {i : Int} (h : IsB l) (hi : 0 ≤ i ∧ i < l.length) : (∀ b ∈ mM l i, 2 ≤ b.f1 ∧ b.f1 ≤ 512) ∧ sumS (mM l i) ≤ 512 := by
  have e := m_split hi
  have hc := h.2
  have hw := h.1
  unfold MayW at hw
  constructor
  · intro b hb
    have := chain_mem hc b (by rw [e]; exact List.mem_append_left _ (List.mem_append_right _ hb))
    omega
  · generalize hs : sumS l = w at hc hw
    rw [e, List.append_assoc] at hc
    have n1 := sumS_nn _ _ hc
    have n2 := sumS_nn _ _ (chain_snd _ _ hc)
    omega
theorem mM_len {l : List S35} {i : Int} (hi : 0 ≤ i ∧ i < l.length) : (mM l i).length ≤ 3 := by
  unfold mM
  rw [List.length_drop, List.length_take]
  unfold mFrom mTo
  split <;> split <;> omega
theorem mblocks_yes {l : List S35} {i : Int} (hl : l.length ≤ 1000) (h : Can l i) : Ev (fun k => merge_Blocks.f k l i) (mrg l i, true) := by
  have hi : 0 ≤ i ∧ i < l.length := ⟨h.2.1, h.2.2.1⟩
  have ft := from_to hi
  have g := mM_good h.1 hi
  have n := mM_len hi
  unfold merge_Blocks.f
  refine ev_bind (around_yes (by omega) h) (ev_pos rfl (ev_pos ft.1 (ev_pos (by show mFrom l i < _; omega) (ev_pos (by show mFrom l i ≤ mTo l i; omega) (ev_pos ft.2.2.2 ?_)))))
  refine ev_bind (mwords_sum (l := mM l i) (by omega) g.1 g.2) (ev_pos (by show mFrom l i ≤ _; omega) (ev_pos (by show 0 ≤ mTo l i; omega) ?_))
  refine ev_bind (concat_ev (mP l i) [⟨(rd_T35 l (mFrom l i)).f0, sumS (mM l i), false⟩] (mQ l i) ?_) (Ev.now _)
  unfold mP mQ
  rw [List.length_take, List.length_drop]
  simp only [List.length_cons, List.length_nil]
  omega
theorem mblocks_no {l : List S35} {i : Int} (hl : l.length ≤ 1000) (h : ¬ Can l i) : Ev (fun k => merge_Blocks.f k l i) ([], false) := by
  unfold merge_Blocks.f
  exact ev_bind (around_no (by omega) h) (ev_neg (by decide) (Ev.now _))
def hWord (n : Int) (u : Bool) : Int := if 2 ≤ n ∧ n ≤ 512 then 2 * n + (if u then 1 else 0) else 0
theorem medit_yes {l : List S35} {i : Int} (hl : l.length ≤ 1000) (h : Can l i) : Ev (fun k => merge_Edit.f k l i) ((rd_T35 l (mFrom l i)).f0, hWord (sumS (mM l i)) false, true) := by
  have hi : 0 ≤ i ∧ i < l.length := ⟨h.2.1, h.2.2.1⟩
  have ft := from_to hi
  have g := mM_good h.1 hi
  have n := mM_len hi
  unfold merge_Edit.f
  refine ev_bind (around_yes (by omega) h) (ev_pos rfl (ev_pos ft.1 (ev_pos (by show mFrom l i < _; omega) (ev_pos (by show mFrom l i ≤ mTo l i; omega) (ev_pos ft.2.2.2 ?_)))))
  exact ev_bind (mwords_sum (l := mM l i) (by omega) g.1 g.2) (ev_bindc (word_eq _ _) (Ev.now _))
theorem medit_no {l : List S35} {i : Int} (hl : l.length ≤ 1000) (h : ¬ Can l i) : Ev (fun k => merge_Edit.f k l i) (0, 0, false) := by
  unfold merge_Edit.f
  exact ev_bind (around_no (by omega) h) (ev_neg (by decide) (Ev.now _))
theorem rdt_drop {l : List S35} {n : Int} {q : S35} {Q : List S35} (_h0 : 0 ≤ n) (h : l.drop n.toNat = q :: Q) : rd_T35 l n = q ∧ n < l.length := by
  have h1 := congrArg List.head? h
  rw [List.head?_drop, List.head?_cons] at h1
  have h2 : n.toNat < l.length := by
    rcases Nat.lt_or_ge n.toNat l.length with h | h
    · exact h
    · rw [List.getElem?_eq_none h] at h1; cases h1
  refine ⟨?_, by omega⟩
  unfold rd_T35
  rw [List.getD_eq_getElem?_getD, h1]
  rfl
theorem chain_alt {l : List S35} {words j : Int} (h : ChainP words 0 false l) (h0 : 0 ≤ j) (h1 : j + 1 < l.length) (hf : (rd_T35 l j).f2 = false) : (rd_T35 l (j + 1)).f2 = true := by
  obtain ⟨pre, x, y, suf, hl, hp⟩ := split_two h0 h1
  rw [hl] at h
  have hs := chain_snd pre _ h
  have ex : rd_T35 l j = x := by rw [hl, ← hp]; exact rdt_mid pre _ x
  have ey : rd_T35 l (j + 1) = y := by
    rw [hl, ← hp, show pre ++ x :: y :: suf = (pre ++ [x]) ++ y :: suf from by simp, show (pre.length : Int) + 1 = ((pre ++ [x]).length : Int) from by simp]
    exact rdt_mid _ suf y
  rw [ex] at hf
  rw [ey]
  exact hs.2.2.2.2.2.2.2.2.2.1 (by rw [hf]; rfl)
theorem lastFr_take {l : List S35} {j : Int} (h0 : 0 ≤ j) (h1 : j < l.length) (fr : Bool) : lastFr fr (l.take (j + 1).toNat) = !(rd_T35 l j).f2 := by
  have e : l.take (j + 1).toNat = l.take j.toNat ++ [rd_T35 l j] := by
    obtain ⟨h, er⟩ := rdt_get h0 h1
    rw [er, show (j + 1).toNat = j.toNat + 1 from by omega, List.take_add_one, List.getElem?_eq_getElem h]
    rfl
  rw [e, lastFr_app]
  rfl
theorem m_parts {l : List S35} {i words : Int} (h : MayB l words) (hi : 0 ≤ i ∧ i < l.length) (_hu : (rd_T35 l i).f2 = true) :
    lastFr false (mP l i) = false ∧ (∃ M, mM l i = rd_T35 l (mFrom l i) :: M) ∧ (∀ q Q', mQ l i = q :: Q' → q.f2 = true) := by
  have ft := from_to hi
  refine ⟨?_, ?_, ?_⟩
  · unfold mP
    by_cases hz : mFrom l i = 0
    · rw [hz]; rfl
    · have e := lastFr_take (l := l) (j := mFrom l i - 1) (by omega) (by omega) false
      rw [show mFrom l i - 1 + 1 = mFrom l i from by omega] at e
      rw [e]
      have : (rd_T35 l (mFrom l i - 1)).f2 = true := by
        by_cases c : i > 0 ∧ (rd_T35 l (i - 1)).f2 = false
        · have ef : mFrom l i = i - 1 := by unfold mFrom; rw [if_pos c]
          rw [ef] at hz ⊢
          cases hb : (rd_T35 l (i - 1 - 1)).f2 with
          | true => rfl
          | false =>
            have := chain_alt h.2 (j := i - 1 - 1) (by omega) (by omega) hb
            rw [show i - 1 - 1 + 1 = i - 1 from by omega, c.2] at this
            cases this
        · have ef : mFrom l i = i := by unfold mFrom; rw [if_neg c]
          rw [ef] at hz ⊢
          cases hb : (rd_T35 l (i - 1)).f2 with
          | true => rfl
          | false => exact absurd ⟨by omega, hb⟩ c
      rw [this]; rfl
  · unfold mM
    have hlen : ((l.take (mTo l i).toNat).drop (mFrom l i).toNat).length ≠ 0 := by
      rw [List.length_drop, List.length_take]; omega
    cases hM : (l.take (mTo l i).toNat).drop (mFrom l i).toNat with
    | nil => rw [hM] at hlen; exact absurd rfl hlen
    | cons x M =>
      refine ⟨M, ?_⟩
      have := (rdt_drop ft.1 hM).1
      have e2 : rd_T35 (l.take (mTo l i).toNat) (mFrom l i) = rd_T35 l (mFrom l i) := by
        unfold rd_T35
        rw [List.getD_eq_getElem?_getD, List.getD_eq_getElem?_getD, List.getElem?_take_of_lt (by omega)]
      rw [← this, e2]
  · intro q Q' hq
    unfold mQ at hq
    obtain ⟨e, hlt⟩ := rdt_drop (by omega) hq
    rw [← e]
    by_cases c : i + 1 < l.length ∧ (rd_T35 l (i + 1)).f2 = false
    · have et : mTo l i = i + 2 := by unfold mTo; rw [if_pos c]
      rw [et] at hlt ⊢
      have := chain_alt h.2 (j := i + 1) (by omega) (by omega) c.2
      rwa [show i + 1 + 1 = i + 2 from by omega] at this
    · have et : mTo l i = i + 1 := by unfold mTo; rw [if_neg c]
      rw [et] at hlt ⊢
      cases hb : (rd_T35 l (i + 1)).f2 with
      | true => rfl
      | false => exact absurd ⟨hlt, hb⟩ c
theorem mrg_may {l : List S35} {i words : Int} (h : MayB l words) (hi : 0 ≤ i ∧ i < l.length) (hu : (rd_T35 l i).f2 = true) : MayB (mrg l i) words := by
  obtain ⟨hp, ⟨M, hM⟩, hq⟩ := m_parts h hi hu
  have hw := h.1
  have hc := h.2
  unfold MayW at hw
  rw [m_split hi, hM] at hc
  have := (chain_join (by omega) (Int.le_refl _) hc hp hq).2
  refine ⟨h.1, ?_⟩
  unfold mrg
  rw [List.append_assoc, hM]
  exact this
theorem can_of {l : List S35} {i words : Int} (h : MayB l words) (hi : 0 ≤ i ∧ i < l.length) (hu : (rd_T35 l i).f2 = true) : Can l i := by
  refine ⟨?_, hi.1, hi.2, hu⟩
  unfold IsB
  rw [← isb_of h]
  exact h
theorem awake_ev : Ev (fun k => darninglaw17_awake.f k) true := Ev.of (fun k => darninglaw17_awake.mono k) (k := 40) (by decide +kernel)
theorem MergeNone : darninglaw17_MergeNone.Pure := by
  intro l words i hm hy hw h1 h2
  apply Ev.rounds
  unfold darninglaw17_MergeNone.f
  have outp : Ev (fun k => darninglaw17_MergeNone.j0 k l i true) true := by
    refine Ev.step (fun k => by rw [darninglaw17_MergeNone.j0]) ?_
    exact ev_pos rfl (ev_bind awake_ev (Ev.now _))
  refine ev_ite (fun _ => outp) (fun c1 => ?_)
  by_cases hC : MayB l words
  case neg => exact ev_bind (mayb_no (by omega) hC) outp
  refine ev_bind (mayb_yes (by omega) hC) ?_
  refine Ev.step (fun k => by rw [darninglaw17_MergeNone.j0]) ?_
  refine ev_neg (by decide) ?_
  by_cases h : Can l i
  · have hi : 0 ≤ i ∧ i < l.length := ⟨h.2.1, h.2.2.1⟩
    refine ev_bind (mblocks_yes (by omega) h) (ev_bind (medit_yes (by omega) h) (ev_pos (by omega) (ev_pos hi.2 (ev_pos hi.1 ?_))))
    rw [h.2.2.2]
    exact ev_pos (by simp) (ev_pos (by simp) (ev_pos rfl (ev_bind awake_ev (Ev.now _))))
  · refine ev_bind (mblocks_no (by omega) h) (ev_bind (medit_no (by omega) h) ?_)
    refine ev_ite (fun c1 => ev_ite (fun c2 => ev_pos c1 ?_) (fun c2 => ?_)) (fun c1 => ?_)
    · have : (rd_T35 l i).f2 = false := by
        cases hu : (rd_T35 l i).f2 with
        | false => rfl
        | true => exact absurd (can_of hC ⟨c1, c2⟩ hu) h
      rw [this]
      exact ev_pos (by simp) (ev_pos (by simp) (ev_neg (by decide) (ev_pos (by simp) (ev_pos (by simp) (ev_bind awake_ev (Ev.now _))))))
    · exact ev_pos (by simp) (ev_pos (by simp) (ev_pos (by simp) (ev_pos (by simp) (ev_bind awake_ev (Ev.now _)))))
    · exact ev_pos (by simp) (ev_pos (by simp) (ev_pos (by simp) (ev_pos (by simp) (ev_bind awake_ev (Ev.now _)))))

end Go.Proofs.Ytglekonhdjploaa.Pure
