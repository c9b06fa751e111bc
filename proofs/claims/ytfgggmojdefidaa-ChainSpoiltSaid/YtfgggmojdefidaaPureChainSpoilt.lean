/- ChainSpoilt: with a header turned into none there are no blocks; a last block that reaches beyond the end is none. No condition. -/
import Derived.Test.YtfgggmojdefidaaXChainSpoiltx
namespace Go.Proofs.Ytfgggmojdefidaa.Pure
open Go.RowKit Go.Proofs.Ytfgggmojdefidaa.XChainSpoilt Go.Proofs.YtfgggmojdefidaaW.PrintWords Go.Proofs.YtfgggmojdefidaaW.PrintLast

theorem wf64 {a : Int} (h : (Lit.int .i64 a).wf = true) : -9223372036854775808 ≤ a ∧ a ≤ 9223372036854775807 := by
  simp [Lit.wf, IntKind.min, IntKind.max, IntKind.bits, IntKind.signed] at h
  omega
theorem wfu64 {a : Int} (h : (Lit.int .u64 a).wf = true) : 0 ≤ a ∧ a ≤ 18446744073709551615 := by
  simp [Lit.wf, IntKind.min, IntKind.max, IntKind.bits, IntKind.signed] at h
  omega
theorem u64w (n : Int) : IntKind.u64.wrap n = n % 18446744073709551616 := by simp [IntKind.wrap, IntKind.bits, IntKind.signed]
theorem w64 {n : Int} (h : -9223372036854775808 ≤ n ∧ n ≤ 9223372036854775807) : wrap64 n = n := by unfold wrap64; omega
theorem tmodp {a b : Int} (h : 0 ≤ a) : Int.tmod a b = a % b := Int.tmod_eq_emod_of_nonneg h
theorem tdivp {a b : Int} (h : 0 ≤ a) : Int.tdiv a b = a / b := Int.tdiv_eq_ediv_of_nonneg h
theorem u64_wraps (n : Int) (h₀ : 0 ≤ n) (h₁ : n < 2 ^ 64) : IntKind.u64.wrap n = n := by rw [u64w]; omega
theorem u64_mask (i : Nat) (hi : i ≤ 64) (x : Int) (h₀ : 0 ≤ x) (h₁ : x < 2 ^ 64) : Go.bits .and .u64 x (2 ^ i - 1) = x % 2 ^ i :=
  bits_mask .u64 64 (by decide) u64_wraps i hi x h₀ h₁
theorem u64_and1 {x : Int} (h₀ : 0 ≤ x) (h₁ : x ≤ 18446744073709551615) : Go.bits .and .u64 x 1 = x % 2 := u64_mask 1 (by decide) x h₀ (by omega)
theorem u64_and3 {x : Int} (h₀ : 0 ≤ x) (h₁ : x ≤ 18446744073709551615) : Go.bits .and .u64 x 3 = x % 4 := u64_mask 2 (by decide) x h₀ (by omega)
theorem u64_or1 {x : Int} (h₀ : 0 ≤ x) (h₁ : x ≤ 18446744073709551615) (h : x % 2 = 0) : Go.bits .or .u64 x 1 = x + 1 :=
  bits_join .u64 64 (by decide) u64_wraps 1 x 1 h₀ h (by omega) (by decide) (by decide) (by decide)
theorem modw (a m : Int) (h : 0 < m) (hm : m ≤ 1000000) : wrap64 (Int.tmod (IntKind.u64.wrap a) m) = (a % 18446744073709551616) % m := by
  rw [u64w, tmodp (by omega), w64]
  have := Int.emod_nonneg (a % 18446744073709551616) (b := m) (by omega)
  have := Int.emod_lt_of_pos (a % 18446744073709551616) h
  omega
theorem ev_pos {α : Type} {c : Prop} [Decidable c] {a b : Nat → Option α} {r : α} (h : c) (k : Ev a r) : Ev (fun n => if c then a n else b n) r := by
  simp only [if_pos h]; exact k
theorem ev_neg {α : Type} {c : Prop} [Decidable c] {a b : Nat → Option α} {r : α} (h : ¬ c) (k : Ev b r) : Ev (fun n => if c then a n else b n) r := by
  simp only [if_neg h]; exact k
theorem ev_ite {α : Type} {c : Prop} [Decidable c] {a b : Nat → Option α} {r : α} (h1 : c → Ev a r) (h2 : ¬ c → Ev b r) : Ev (fun n => if c then a n else b n) r := by
  by_cases h : c
  · exact ev_pos h (h1 h)
  · exact ev_neg h (h2 h)
theorem ev_bindc {α β : Type} {o : Option α} {f : Nat → α → Option β} {a : α} {r : β} (h : o = some a) (k : Ev (fun n => f n a) r) : Ev (fun n => o.bind (f n)) r := by
  subst h; exact k
theorem ev_bind {α β : Type} {g : Nat → Option α} {f : Nat → α → Option β} {a : α} {r : β} (h : Ev g a) (k : Ev (fun n => f n a) r) : Ev (fun n => (g n).bind (f n)) r := Ev.bind h k
theorem ev_now {α : Type} {r s : α} (h : s = r) : Ev (fun _ => some s) r := by subst h; exact Ev.now _
theorem ev_some {α : Type} {o : Option α} {r : α} (h : o = some r) : Ev (fun _ => o) r := ⟨0, fun _ _ => h⟩
theorem ev_one {α : Type} {g : Nat → Option α} {r : α} (h : ∀ k, g (k + 1) = some r) : Ev g r := ⟨1, fun k hk => by obtain ⟨m, rfl⟩ : ∃ m, k = m + 1 := ⟨k - 1, by omega⟩; exact h m⟩
theorem ev_two {α : Type} {g : Nat → Option α} {r : α} (h : ∀ k, g (k + 2) = some r) : Ev g r := ⟨2, fun k hk => by obtain ⟨m, rfl⟩ : ∃ m, k = m + 2 := ⟨k - 2, by omega⟩; exact h m⟩
theorem rdt_mid (pre suf : List S51) (x : S51) : rd_T51 (pre ++ x :: suf) (pre.length : Int) = x := by
  unfold rd_T51
  rw [List.getD_eq_getElem?_getD, Int.toNat_natCast, List.getElem?_append_right (by omega)]
  simp
theorem rdt_last (pre suf : List S51) (x : S51) : rd_T51 ((pre ++ [x]) ++ suf) (((pre ++ [x]).length : Int) - 1) = x := by
  have e : (((pre ++ [x]).length : Int) - 1) = (pre.length : Int) := by simp
  rw [e, List.append_assoc]
  exact rdt_mid pre suf x
theorem rdt_get {l : List S51} {j : Int} (h0 : 0 ≤ j) (h1 : j < l.length) : ∃ h : j.toNat < l.length, rd_T51 l j = l[j.toNat]'h := by
  refine ⟨by omega, ?_⟩
  unfold rd_T51
  rw [List.getD_eq_getElem?_getD, List.getElem?_eq_getElem (by omega)]
  rfl
theorem rdt_mem {l : List S51} {j : Int} (h0 : 0 ≤ j) (h1 : j < l.length) : rd_T51 l j ∈ l := by
  obtain ⟨h, e⟩ := rdt_get h0 h1
  rw [e]
  exact List.getElem_mem h
/-- Blocks side by side, from a word on; fr: is the block ahead of them free? -/
def ChainP (words : Int) : Int → Bool → List S51 → Prop
  | a, _, [] => a = words
  | a, fr, b :: l => b.f0 = a ∧ 2 ≤ b.f1 ∧ b.f1 ≤ 512 ∧ b.f1 ≤ words - a ∧ (fr = true → b.f2 = true) ∧ ChainP words (a + b.f1) (!b.f2) l
def MayW (words : Int) : Prop := 8 ≤ words ∧ words ≤ 512 ∧ words % 8 = 0
instance (words : Int) : Decidable (MayW words) := by unfold MayW; infer_instance
def MayB (l : List S51) (words : Int) : Prop := MayW words ∧ ChainP words 0 false l
theorem chain_mem {words : Int} {l : List S51} : ∀ {a : Int} {fr : Bool}, ChainP words a fr l → ∀ b ∈ l, a ≤ b.f0 ∧ 2 ≤ b.f1 ∧ b.f1 ≤ 512 ∧ b.f0 + b.f1 ≤ words := by
  induction l with
  | nil => exact fun _ b hb => absurd hb (by simp)
  | cons c l ih =>
    intro a fr h b hb
    obtain ⟨h0, h1, h2, h3, h4, h5⟩ := h
    rcases List.mem_cons.1 hb with hb | hb
    · subst hb; omega
    · have := ih h5 b hb; omega
theorem chain_up {words : Int} {l : List S51} : ∀ {a : Int} {fr : Bool}, ChainP words a fr l → l.Pairwise (fun b c => b.f0 + b.f1 ≤ c.f0) := by
  induction l with
  | nil => exact fun _ => List.Pairwise.nil
  | cons c l ih =>
    intro a fr h
    obtain ⟨h0, h1, h2, h3, h4, h5⟩ := h
    refine List.pairwise_cons.2 ⟨fun b hb => ?_, ih h5⟩
    have := chain_mem h5 b hb
    omega
theorem chain_le {words : Int} {l : List S51} : ∀ {a : Int} {fr : Bool}, ChainP words a fr l → a ≤ words := by
  induction l with
  | nil => exact fun h => Int.le_of_eq h
  | cons c l ih =>
    intro a fr h
    obtain ⟨h0, h1, h2, h3, h4, h5⟩ := h
    omega
theorem chain_len {words : Int} {l : List S51} : ∀ {a : Int} {fr : Bool}, ChainP words a fr l → a + 2 * l.length ≤ words := by
  induction l with
  | nil => intro a fr h; have : a = words := h; simp; omega
  | cons c l ih =>
    intro a fr h
    obtain ⟨h0, h1, h2, h3, h4, h5⟩ := h
    have := ih h5
    simp; omega
theorem chain_rd {words : Int} {l : List S51} (h : ChainP words 0 false l) {j : Int} (h0 : 0 ≤ j) (h1 : j < l.length) :
    0 ≤ (rd_T51 l j).f0 ∧ 2 ≤ (rd_T51 l j).f1 ∧ (rd_T51 l j).f1 ≤ 512 ∧ (rd_T51 l j).f0 + (rd_T51 l j).f1 ≤ words := chain_mem h _ (rdt_mem h0 h1)
theorem chain_lt {words : Int} {l : List S51} (h : ChainP words 0 false l) {i j : Int} (h0 : 0 ≤ i) (h1 : i < j) (h2 : j < l.length) : (rd_T51 l i).f0 + (rd_T51 l i).f1 ≤ (rd_T51 l j).f0 := by
  obtain ⟨hi, ei⟩ := rdt_get (l := l) h0 (by omega)
  obtain ⟨hj, ej⟩ := rdt_get (l := l) (j := j) (by omega) h2
  rw [ei, ej]
  exact List.pairwise_iff_getElem.1 (chain_up h) _ _ hi hj (by omega)
/-- Is the last one of some blocks free? -/
def frOf (l : List S51) : Bool := match l.getLast? with | some b => !b.f2 | none => false
theorem frOf_snoc (l : List S51) (b : S51) : frOf (l ++ [b]) = !b.f2 := by simp [frOf]
theorem frOf_pos {l : List S51} (h : frOf l = true) : ∃ m b, l = m ++ [b] ∧ b.f2 = false := by
  rcases List.eq_nil_or_concat l with rfl | ⟨m, b, rfl⟩
  · simp [frOf] at h
  · refine ⟨m, b, by simp, ?_⟩
    simpa [frOf] using h
theorem cmayw_eq (n : Int) : chain_mayWords.f n = some (decide (8 ≤ n ∧ n ≤ 512 ∧ n % 8 = 0)) := by
  unfold chain_mayWords.f
  by_cases h1 : n ≥ 8
  · rw [if_pos h1]
    by_cases h2 : n ≤ 512
    · rw [if_pos h2, tmodp (by omega)]
      congr 1
      rw [Bool.eq_iff_iff, beq_iff_eq, decide_eq_true_iff]
      exact ⟨fun h => ⟨h1, h2, h⟩, fun h => h.2.2⟩
    · rw [if_neg h2, decide_eq_false (by omega)]
  · rw [if_neg h1, decide_eq_false (by omega)]
theorem bmay_eq (n : Int) : block_May.f n = some (decide (2 ≤ n ∧ n ≤ 512)) := by
  unfold block_May.f
  by_cases h2 : n ≥ 2
  · rw [if_pos h2]; congr 1; rw [Bool.eq_iff_iff]; simp only [decide_eq_true_iff]; omega
  · rw [if_neg h2, decide_eq_false (by omega)]
theorem cmay_l0 {words : Int} (hw : words ≤ 100000) (suf : List S51) : ∀ (pre : List S51) (a : Int) (fr : Bool), 0 ≤ a → a ≤ words → (pre ++ suf).length ≤ 100000 →
    ∃ b, Ev (fun k => chain_May.l0 k words a fr (pre ++ suf) ((pre ++ suf).length : Int) (pre.length : Int)) b ∧ (b = true ↔ ChainP words a fr suf) := by
  induction suf with
  | nil =>
    intro pre a fr h0 h1 hl
    refine ⟨a == words, Ev.step (fun k => by rw [chain_May.l0]) (ev_neg (by simp) (Ev.now _)), ?_⟩
    rw [beq_iff_eq]; exact Iff.rfl
  | cons x suf ih =>
    intro pre a fr h0 h1 hl
    have e : pre ++ x :: suf = (pre ++ [x]) ++ suf := by simp
    have hlen2 : ((pre ++ [x]).length : Int) = (pre.length : Int) + 1 := by simp
    have hlt : (pre.length : Int) < ((pre ++ x :: suf).length : Int) := by simp; omega
    have w1 : wrap64 ((pre.length : Int) + 1) = (pre.length : Int) + 1 := w64 (by simp at hl; omega)
    have w2 : wrap64 (words - a) = words - a := w64 (by omega)
    by_cases c1 : x.f0 = a
    · by_cases c2 : 2 ≤ x.f1 ∧ x.f1 ≤ 512
      · by_cases c4 : fr = true ∧ x.f2 = false
        · refine ⟨false, Ev.step (fun k => by rw [chain_May.l0]) ?_, ⟨fun h => (by cases h), fun h => by have := h.2.2.2.2.1 c4.1; rw [c4.2] at this; cases this⟩⟩
          rw [rdt_mid]
          exact ev_pos hlt (ev_pos (by omega) (ev_pos hlt (ev_pos c1 (ev_bindc (bmay_eq _) (ev_pos (by simp [c2]) (ev_pos c4.1 (ev_neg (by rw [c4.2]; decide) (Ev.now _))))))))
        · by_cases c3 : x.f1 > words - a
          · refine ⟨false, Ev.step (fun k => by rw [chain_May.l0]) ?_, ⟨fun h => (by cases h), fun h => by have := h.2.2.2.1; omega⟩⟩
            rw [rdt_mid, w2]
            refine ev_pos hlt (ev_pos (by omega) (ev_pos hlt (ev_pos c1 (ev_bindc (bmay_eq _) (ev_pos (by simp [c2]) ?_)))))
            exact ev_ite (fun _ => ev_ite (fun _ => ev_pos c3 (Ev.now _)) (fun _ => Ev.now _)) (fun _ => ev_pos c3 (Ev.now _))
          · have w3 : wrap64 (a + x.f1) = a + x.f1 := w64 (by omega)
            obtain ⟨b, hb, hi⟩ := ih (pre ++ [x]) (a + x.f1) (!x.f2) (by omega) (by omega) (by rw [← e]; exact hl)
            rw [hlen2, ← e] at hb
            refine ⟨b, Ev.step (fun k => by rw [chain_May.l0]) ?_, ?_⟩
            · rw [rdt_mid, w2, w1, w3]
              refine ev_pos hlt (ev_pos (by omega) (ev_pos hlt (ev_pos c1 (ev_bindc (bmay_eq _) (ev_pos (by simp [c2]) ?_)))))
              refine ev_ite (fun hf => ?_) (fun _ => ev_neg c3 hb)
              refine ev_pos ?_ (ev_neg c3 hb)
              cases hx : x.f2 with
              | true => rfl
              | false => exact absurd ⟨hf, hx⟩ c4
            · rw [hi]
              constructor
              · intro h
                exact ⟨c1, c2.1, c2.2, by omega, fun hf => by
                  cases hx : x.f2 with
                  | true => rfl
                  | false => exact absurd ⟨hf, hx⟩ c4, h⟩
              · exact fun h => h.2.2.2.2.2
      · refine ⟨false, Ev.step (fun k => by rw [chain_May.l0]) ?_, ⟨fun h => (by cases h), fun h => absurd ⟨h.2.1, h.2.2.1⟩ c2⟩⟩
        rw [rdt_mid]
        exact ev_pos hlt (ev_pos (by omega) (ev_pos hlt (ev_pos c1 (ev_bindc (bmay_eq _) (ev_neg (by simp; omega) (Ev.now _))))))
    · refine ⟨false, Ev.step (fun k => by rw [chain_May.l0]) ?_, ⟨fun h => (by cases h), fun h => absurd h.1 c1⟩⟩
      rw [rdt_mid]
      exact ev_pos hlt (ev_pos (by omega) (ev_pos hlt (ev_neg c1 (Ev.now _))))
theorem cmay_ev {l : List S51} (words : Int) (hl : l.length ≤ 100000) : ∃ b, Ev (fun k => chain_May.f k l words) b ∧ (b = true ↔ MayB l words) := by
  unfold chain_May.f
  by_cases h : 8 ≤ words ∧ words ≤ 512 ∧ words % 8 = 0
  · obtain ⟨b, hb, hi⟩ := cmay_l0 (words := words) (by omega) l [] 0 false (by omega) (by omega) hl
    refine ⟨b, ev_bindc (cmayw_eq words) (ev_pos (by simp [h]) hb), hi.trans ⟨fun hh => ⟨h, hh⟩, fun hh => hh.2⟩⟩
  · exact ⟨false, ev_bindc (cmayw_eq words) (ev_neg (by simpa using h) (Ev.now _)), ⟨fun hh => (by cases hh), fun hh => absurd hh.1 h⟩⟩
theorem cmay_yes {l : List S51} {words : Int} (hl : l.length ≤ 100000) (h : MayB l words) : Ev (fun k => chain_May.f k l words) true := by
  obtain ⟨b, hb, hi⟩ := cmay_ev words hl
  rwa [hi.2 h] at hb
theorem cmay_no {l : List S51} {words : Int} (hl : l.length ≤ 100000) (h : ¬ MayB l words) : Ev (fun k => chain_May.f k l words) false := by
  obtain ⟨b, hb, hi⟩ := cmay_ev words hl
  cases b with
  | true => exact absurd (hi.1 rfl) h
  | false => exact hb
theorem parse_eq {w : Int} (h : 0 ≤ w ∧ w ≤ 18446744073709551615) :
    block_Parse.f w = if 2 ≤ w / 2 ∧ w / 2 ≤ 512 then some (w / 2, w % 2 == 1, true) else some (0, false, false) := by
  unfold block_Parse.f block_May.f
  rw [u64_and1 h.1 h.2, w64 (by omega)]
  by_cases h1 : w / 2 > 512
  · rw [if_pos h1, if_neg (by omega)]
  · rw [if_neg h1]
    by_cases h2 : w / 2 ≥ 2
    · rw [if_pos h2, if_pos (by omega)]
      simp only [Option.bind_some]
      rw [if_pos (by simp; omega)]
    · rw [if_neg h2, if_neg (by omega)]; rfl
theorem word_eq (n : Int) (u : Bool) : block_Word.f n u = some (if 2 ≤ n ∧ n ≤ 512 then 2 * n + (if u then 1 else 0) else 0) := by
  unfold block_Word.f block_May.f
  by_cases h : 2 ≤ n ∧ n ≤ 512
  · rw [if_pos (by omega), if_pos h]
    simp only [Option.bind_some]
    rw [if_pos (by simp; omega)]
    have e : IntKind.u64.wrap (IntKind.u64.wrap n * 2) = 2 * n := by rw [u64w, u64w]; omega
    rw [e]
    cases u
    · simp
    · simp only [if_true]; rw [u64_or1 (by omega) (by omega) (by omega)]
  · rw [if_neg h]
    by_cases h2 : n ≥ 2
    · rw [if_pos h2]; simp only [Option.bind_some]; rw [if_neg (by simp; omega)]
    · rw [if_neg h2]; rfl
/-- The words that the statement speaks of. -/
def Wds (w : List Int) : Prop := w.length ≤ 2000 ∧ ∀ j : Int, 0 ≤ rd w j ∧ rd w j ≤ 18446744073709551615
theorem wds_of {w : List Int} (h : ∀ x ∈ w, (Lit.int .u64 x).wf = true) (hl : w.length ≤ 2000) : Wds w := by
  refine ⟨hl, fun j => ?_⟩
  unfold rd
  rw [List.getD_eq_getElem?_getD]
  by_cases hj : j.toNat < w.length
  · rw [List.getElem?_eq_getElem hj]
    exact wfu64 (h _ (List.getElem_mem hj))
  · rw [List.getElem?_eq_none (by omega)]; exact ⟨by decide, by decide⟩
/-- The blocks that words are, from a word on. -/
def ParseP (w : List Int) : Int → List S51 → Prop
  | a, [] => (w.length : Int) ≤ a
  | a, b :: l => a < w.length ∧ b.f0 = a ∧ 2 ≤ rd w a / 2 ∧ rd w a / 2 ≤ 512 ∧ b.f1 = rd w a / 2 ∧ b.f2 = (rd w a % 2 == 1) ∧ ParseP w (a + b.f1) l
theorem blk_ext {a b : S51} (h0 : a.f0 = b.f0) (h1 : a.f1 = b.f1) (h2 : a.f2 = b.f2) : a = b := by
  cases a; cases b; simp at h0 h1 h2; simp [h0, h1, h2]
theorem parse_one {w : List Int} {l : List S51} : ∀ {a : Int} {m : List S51}, ParseP w a l → ParseP w a m → l = m := by
  induction l with
  | nil =>
    intro a m h h'
    cases m with
    | nil => rfl
    | cons b m => have h1 : (w.length : Int) ≤ a := h; have := h'.1; omega
  | cons b l ih =>
    intro a m h h'
    cases m with
    | nil => have h1 : (w.length : Int) ≤ a := h'; have := h.1; omega
    | cons c m =>
      obtain ⟨a0, a1, a2, a3, a4, a5, a6⟩ := h
      obtain ⟨b0, b1, b2, b3, b4, b5, b6⟩ := h'
      have e : b = c := blk_ext (by rw [a1, b1]) (by rw [a4, b4]) (by rw [a5, b5])
      subst e
      rw [ih a6 b6]
def BlocksP (w : List Int) (r : List S51 × Bool) : Prop :=
  (ParseP w 0 r.1 ∧ MayB r.1 w.length ∧ r.2 = true) ∨ ((∀ l, ParseP w 0 l → ¬ MayB l w.length) ∧ r = ([], false))
theorem blocks_one {w : List Int} {r r' : List S51 × Bool} (h : BlocksP w r) (h' : BlocksP w r') : r = r' := by
  rcases h with ⟨a, b, c⟩ | ⟨a, b⟩
  · rcases h' with ⟨a', b', c'⟩ | ⟨a', b'⟩
    · exact Prod.ext (parse_one a a') (by rw [c, c'])
    · exact absurd b (a' _ a)
  · rcases h' with ⟨a', b', c'⟩ | ⟨a', b'⟩
    · exact absurd b' (a _ a')
    · rw [b, b']
theorem blocks_l0 {w : List Int} (hw : Wds w) (d : Nat) : ∀ (acc : List S51) (a : Int), 0 ≤ a → (w.length : Int) ≤ a + d → a ≤ 3000 → (acc.length : Int) ≤ a →
    ∃ r, Ev (fun k => chain_Blocks.l0 k w acc a) r ∧ ((∃ l, ParseP w a l ∧ MayB (acc ++ l) w.length ∧ r = (acc ++ l, true)) ∨ ((∀ l, ParseP w a l → ¬ MayB (acc ++ l) w.length) ∧ r = ([], false))) := by
  have hlen := hw.1
  have fin : ∀ (acc : List S51) (a : Int), 0 ≤ a → (w.length : Int) ≤ a → a ≤ 3000 → (acc.length : Int) ≤ a →
      ∃ r, Ev (fun k => chain_Blocks.l0 k w acc a) r ∧ ((∃ l, ParseP w a l ∧ MayB (acc ++ l) w.length ∧ r = (acc ++ l, true)) ∨ ((∀ l, ParseP w a l → ¬ MayB (acc ++ l) w.length) ∧ r = ([], false))) := by
    intro acc a h0 h1 h2 h3
    obtain ⟨b, hb, hi⟩ := cmay_ev (l := acc) (w.length : Int) (by omega)
    have pn : ∀ l, ParseP w a l → l = [] := fun l hl => by
      cases l with
      | nil => rfl
      | cons c l => have := hl.1; omega
    cases b with
    | true =>
      refine ⟨(acc, true), Ev.step (fun k => by rw [chain_Blocks.l0]) ?_, Or.inl ⟨[], h1, by rw [List.append_nil]; exact hi.1 rfl, by rw [List.append_nil]⟩⟩
      exact ev_neg (by omega) (ev_bind hb (ev_pos rfl (Ev.now _)))
    | false =>
      refine ⟨([], false), Ev.step (fun k => by rw [chain_Blocks.l0]) ?_, Or.inr ⟨fun l hl hm => ?_, rfl⟩⟩
      · exact ev_neg (by omega) (ev_bind hb (ev_neg (by decide) (Ev.now _)))
      · rw [pn l hl, List.append_nil] at hm
        have := hi.2 hm
        cases this
  induction d with
  | zero => intro acc a h0 h1; exact fin acc a h0 (by omega)
  | succ d ih =>
    intro acc a h0 h1 h2 h3
    by_cases ha : (w.length : Int) ≤ a
    · exact fin acc a h0 ha h2 h3
    · have hr := hw.2 a
      by_cases hp : 2 ≤ rd w a / 2 ∧ rd w a / 2 ≤ 512
      · obtain ⟨r, hb, hi⟩ := ih (acc ++ [(⟨a, rd w a / 2, rd w a % 2 == 1⟩ : S51)]) (a + rd w a / 2) (by omega) (by omega) (by omega) (by simp; omega)
        refine ⟨r, Ev.step (fun k => by rw [chain_Blocks.l0]) ?_, ?_⟩
        · rw [parse_eq hr, if_pos hp]
          refine ev_pos (by omega) (ev_pos h0 (ev_bindc rfl ?_))
          refine ev_pos rfl (ev_pos (by omega) ?_)
          rw [w64 (n := a + rd w a / 2) (by omega)]
          exact hb
        · rcases hi with ⟨l, q1, q2, q3⟩ | ⟨q1, q2⟩
          · refine Or.inl ⟨(⟨a, rd w a / 2, rd w a % 2 == 1⟩ : S51) :: l, ⟨by omega, rfl, hp.1, hp.2, rfl, rfl, q1⟩, ?_, ?_⟩
            · rw [List.append_assoc] at q2; exact q2
            · rw [q3, List.append_assoc]; rfl
          · refine Or.inr ⟨fun l hl => ?_, q2⟩
            cases l with
            | nil => have hl : (w.length : Int) ≤ a := hl; omega
            | cons b l =>
              obtain ⟨b0, b1, b2, b3, b4, b5, b6⟩ := hl
              have e : b = (⟨a, rd w a / 2, rd w a % 2 == 1⟩ : S51) := blk_ext b1 b4 b5
              rw [b4] at b6
              have := q1 l b6
              rw [List.append_assoc] at this
              rw [e]; exact this
      · refine ⟨([], false), Ev.step (fun k => by rw [chain_Blocks.l0]) ?_, Or.inr ⟨fun l hl => ?_, rfl⟩⟩
        · rw [parse_eq hr, if_neg hp]
          exact ev_pos (by omega) (ev_pos h0 (ev_bindc rfl (ev_neg (by decide) (Ev.now _))))
        · cases l with
          | nil => have hl : (w.length : Int) ≤ a := hl; omega
          | cons b l => exact absurd ⟨hl.2.2.1, hl.2.2.2.1⟩ hp
theorem blocks_ev {w : List Int} (hw : Wds w) : ∃ r, Ev (fun k => chain_Blocks.f k w) r ∧ BlocksP w r := by
  have hlen := hw.1
  obtain ⟨r, h1, h2⟩ := blocks_l0 hw w.length [] 0 (by omega) (by omega) (by omega) (by simp)
  refine ⟨r, h1, ?_⟩
  rcases h2 with ⟨l, a, b, c⟩ | ⟨a, b⟩
  · rw [c]; exact Or.inl ⟨a, b, rfl⟩
  · exact Or.inr ⟨a, b⟩
theorem blocks_yes {w : List Int} {l : List S51} (hw : Wds w) (hp : ParseP w 0 l) (hm : MayB l w.length) : Ev (fun k => chain_Blocks.f k w) (l, true) := by
  obtain ⟨r, h1, h2⟩ := blocks_ev hw
  have := blocks_one h2 (Or.inl ⟨hp, hm, rfl⟩ : BlocksP w (l, true))
  rwa [this] at h1
theorem blocks_no {w : List Int} (hw : Wds w) (h : ∀ l : List S51, ParseP w 0 l → ¬ MayB l w.length) : Ev (fun k => chain_Blocks.f k w) ([], false) := by
  obtain ⟨r, h1, h2⟩ := blocks_ev hw
  have := blocks_one h2 (Or.inr ⟨h, rfl⟩ : BlocksP w ([], false))
  rwa [this] at h1
/-- The header of a block. -/
def headOf (b : S51) : Int := 2 * b.f1 + (if b.f2 = true then 1 else 0)
theorem head_r (b : S51) : (headOf b / 2 = b.f1) ∧ ((headOf b % 2 == 1) = b.f2) := by
  unfold headOf
  cases b.f2
  · rw [if_neg (by decide)]; exact ⟨by omega, by rw [beq_eq_false_iff_ne]; omega⟩
  · rw [if_pos rfl]; exact ⟨by omega, by rw [beq_iff_eq]; omega⟩
/-- Words at which the blocks' headers stand are those blocks. -/
theorem parse_of {w : List Int} {l : List S51} : ∀ {a : Int} {fr : Bool}, ChainP w.length a fr l → (∀ b ∈ l, rd w b.f0 = headOf b) → ParseP w a l := by
  induction l with
  | nil => intro a fr h _; have h : a = w.length := h; show (w.length : Int) ≤ a; omega
  | cons b l ih =>
    intro a fr h hh
    obtain ⟨h0, h1, h2, h3, h4, h5⟩ := h
    have hb := hh b (by simp)
    rw [h0] at hb
    have hr := head_r b
    exact ⟨by omega, h0, by rw [hb, hr.1]; exact h1, by rw [hb, hr.1]; exact h2, by rw [hb, hr.1], by rw [hb, hr.2], ih h5 (fun c hc => hh c (by simp [hc]))⟩
theorem first_eq (n : Int) : chain_First.f n = some (if MayW n then (List.replicate n.toNat 0).set 0 (2 * n) else []) := by
  unfold chain_First.f
  rw [cmayw_eq]
  simp only [Option.bind_some]
  by_cases h : 8 ≤ n ∧ n ≤ 512 ∧ n % 8 = 0
  · rw [if_pos (by simp [h]), if_pos (by omega), if_pos (by omega), if_pos (show MayW n from h), word_eq, if_pos (by omega)]
    simp only [Option.bind_some]
    rw [if_pos (by simp; omega)]
    simp
  · rw [if_neg (by simpa using h), if_neg (show ¬ MayW n from h)]
theorem maysize_eq (n : Int) : darningref4_MaySize.f n = some (decide (2 ≤ n ∧ n ≤ 512)) := by
  unfold darningref4_MaySize.f
  by_cases h2 : n ≥ 2
  · rw [if_pos h2]; congr 1; rw [Bool.eq_iff_iff]; simp only [decide_eq_true_iff]; omega
  · rw [if_neg h2, decide_eq_false (by omega)]
theorem rmayw_eq (n : Int) : darningref4_mayWords.f n = some (decide (8 ≤ n ∧ n ≤ 512 ∧ n % 8 = 0)) := by
  unfold darningref4_mayWords.f
  by_cases h1 : n ≥ 8
  · rw [if_pos h1]
    by_cases h2 : n ≤ 512
    · rw [if_pos h2, tmodp (by omega)]
      congr 1
      rw [Bool.eq_iff_iff, beq_iff_eq, decide_eq_true_iff]
      exact ⟨fun h => ⟨h1, h2, h⟩, fun h => h.2.2⟩
    · rw [if_neg h2, decide_eq_false (by omega)]
  · rw [if_neg h1, decide_eq_false (by omega)]
theorem mayb_l0 {words : Int} (hw : words ≤ 512) (suf : List S51) : ∀ (pre : List S51) (a : Int), 0 ≤ a → a ≤ words → (pre ++ suf).length ≤ 100000 →
    ∃ b, Ev (fun k => darningref4_MayBlocks.l0 k (pre ++ suf) words a (pre ++ suf) ((pre ++ suf).length : Int) (pre.length : Int)) b ∧ (b = true ↔ ChainP words a (frOf pre) suf) := by
  induction suf with
  | nil =>
    intro pre a h0 h1 hl
    refine ⟨a == words, Ev.step (fun k => by rw [darningref4_MayBlocks.l0]) (ev_neg (by simp) (Ev.now _)), ?_⟩
    rw [beq_iff_eq]; exact Iff.rfl
  | cons x suf ih =>
    intro pre a h0 h1 hl
    have e : pre ++ x :: suf = (pre ++ [x]) ++ suf := by simp
    have hlen2 : ((pre ++ [x]).length : Int) = (pre.length : Int) + 1 := by simp
    have hlt : (pre.length : Int) < ((pre ++ x :: suf).length : Int) := by simp; omega
    have w1 : wrap64 ((pre.length : Int) + 1) = (pre.length : Int) + 1 := w64 (by simp at hl; omega)
    have w2 : wrap64 (words - a) = words - a := w64 (by omega)
    by_cases c1 : x.f0 = a
    · by_cases c2 : 2 ≤ x.f1 ∧ x.f1 ≤ 512
      · by_cases c3 : x.f1 > words - a
        · refine ⟨false, Ev.step (fun k => by rw [darningref4_MayBlocks.l0]) ?_, ⟨fun h => (by cases h), fun h => by have := h.2.2.2.1; omega⟩⟩
          rw [rdt_mid, w2]
          exact ev_pos hlt (ev_pos (by omega) (ev_pos hlt (ev_pos c1 (ev_bindc (maysize_eq _) (ev_pos (by simp [c2]) (ev_pos c3 (Ev.now _)))))))
        · have w3 : wrap64 (a + x.f1) = a + x.f1 := w64 (by omega)
          obtain ⟨b, hb, hi⟩ := ih (pre ++ [x]) (a + x.f1) (by omega) (by omega) (by rw [← e]; exact hl)
          rw [hlen2, ← e] at hb
          rw [frOf_snoc] at hi
          by_cases c4 : frOf pre = true ∧ x.f2 = false
          · obtain ⟨m, y, hm, hy⟩ := frOf_pos c4.1
            refine ⟨false, Ev.step (fun k => by rw [darningref4_MayBlocks.l0]) ?_, ⟨fun h => (by cases h), fun h => by have := h.2.2.2.2.1 c4.1; rw [c4.2] at this; cases this⟩⟩
            rw [rdt_mid, w2, w1, w3]
            refine ev_pos hlt (ev_pos (by omega) (ev_pos hlt (ev_pos c1 (ev_bindc (maysize_eq _) (ev_pos (by simp [c2]) (ev_neg c3 ?_))))))
            have hp : 0 < (pre.length : Int) := by rw [hm, List.length_append, List.length_singleton]; omega
            refine ev_pos hp (ev_neg (by rw [c4.2]; decide) ?_)
            have w4 : wrap64 ((pre.length : Int) - 1) = (pre.length : Int) - 1 := w64 (by simp at hl; omega)
            rw [w4]
            refine ev_pos (by omega) (ev_pos (by omega) (ev_neg ?_ (Ev.now _)))
            have e2 : rd_T51 (pre ++ x :: suf) ((pre.length : Int) - 1) = y := by rw [hm]; exact rdt_last m (x :: suf) y
            rw [e2, hy]; decide
          · refine ⟨b, Ev.step (fun k => by rw [darningref4_MayBlocks.l0]) ?_, ?_⟩
            · rw [rdt_mid, w2, w1, w3]
              refine ev_pos hlt (ev_pos (by omega) (ev_pos hlt (ev_pos c1 (ev_bindc (maysize_eq _) (ev_pos (by simp [c2]) (ev_neg c3 ?_))))))
              refine ev_ite (fun hp => ev_ite (fun _ => hb) (fun hu => ?_)) (fun _ => hb)
              have w4 : wrap64 ((pre.length : Int) - 1) = (pre.length : Int) - 1 := w64 (by simp at hl; omega)
              rw [w4]
              refine ev_pos (by omega) (ev_pos (by omega) (ev_pos ?_ hb))
              rcases List.eq_nil_or_concat pre with hn | ⟨m, y, hm⟩
              · subst hn; simp at hp
              · rw [List.concat_eq_append] at hm
                have e2 : rd_T51 (pre ++ x :: suf) ((pre.length : Int) - 1) = y := by rw [hm]; exact rdt_last m (x :: suf) y
                rw [e2]
                have hfr : frOf pre = !y.f2 := by rw [hm, frOf_snoc]
                rw [hfr] at c4
                cases hy : y.f2 with
                | true => rfl
                | false =>
                  exact absurd ⟨by rw [hy]; rfl, by simpa using hu⟩ c4
            · rw [hi]
              constructor
              · intro h
                exact ⟨c1, c2.1, c2.2, by omega, fun hf => by
                  cases hx : x.f2 with
                  | true => rfl
                  | false => exact absurd ⟨hf, hx⟩ c4, h⟩
              · exact fun h => h.2.2.2.2.2
      · refine ⟨false, Ev.step (fun k => by rw [darningref4_MayBlocks.l0]) ?_, ⟨fun h => (by cases h), fun h => absurd ⟨h.2.1, h.2.2.1⟩ c2⟩⟩
        rw [rdt_mid]
        exact ev_pos hlt (ev_pos (by omega) (ev_pos hlt (ev_pos c1 (ev_bindc (maysize_eq _) (ev_neg (by simp; omega) (Ev.now _))))))
    · refine ⟨false, Ev.step (fun k => by rw [darningref4_MayBlocks.l0]) ?_, ⟨fun h => (by cases h), fun h => absurd h.1 c1⟩⟩
      rw [rdt_mid]
      exact ev_pos hlt (ev_pos (by omega) (ev_pos hlt (ev_neg c1 (Ev.now _))))
theorem mayb_ev {l : List S51} (words : Int) (hl : l.length ≤ 100000) : ∃ b, Ev (fun k => darningref4_MayBlocks.f k l words) b ∧ (b = true ↔ MayB l words) := by
  unfold darningref4_MayBlocks.f
  by_cases h : 8 ≤ words ∧ words ≤ 512 ∧ words % 8 = 0
  · obtain ⟨b, hb, hi⟩ := mayb_l0 h.2.1 l [] 0 (by omega) (by omega) hl
    refine ⟨b, ev_bindc (rmayw_eq words) (ev_pos (by simp [h]) hb), hi.trans ⟨fun hh => ⟨h, hh⟩, fun hh => hh.2⟩⟩
  · exact ⟨false, ev_bindc (rmayw_eq words) (ev_neg (by simpa using h) (Ev.now _)), ⟨fun hh => (by cases hh), fun hh => absurd hh.1 h⟩⟩
theorem mayb_yes {l : List S51} {words : Int} (hl : l.length ≤ 100000) (h : MayB l words) : Ev (fun k => darningref4_MayBlocks.f k l words) true := by
  obtain ⟨b, hb, hi⟩ := mayb_ev words hl
  rwa [hi.2 h] at hb
theorem mayb_no {l : List S51} {words : Int} (hl : l.length ≤ 100000) (h : ¬ MayB l words) : Ev (fun k => darningref4_MayBlocks.f k l words) false := by
  obtain ⟨b, hb, hi⟩ := mayb_ev words hl
  cases b with
  | true => exact absurd (hi.1 rfl) h
  | false => exact hb
theorem rword_eq (n : Int) (u : Bool) : darningref4_Word.f n u = block_Word.f n u := rfl
theorem rd_set {t : List Int} {i : Nat} (v j : Int) (hi : i < t.length) : rd (t.set i v) j = if j.toNat = i then v else rd t j := by
  unfold rd
  rw [List.getD_eq_getElem?_getD, List.getElem?_set, List.getD_eq_getElem?_getD]
  by_cases h : i = j.toNat
  · rw [if_pos h, if_pos (by omega), if_pos h.symm]; rfl
  · rw [if_neg h, if_neg (fun e => h e.symm)]
theorem rd_rep (n : Nat) (j : Int) : rd (List.replicate n 0) j = 0 := by
  unfold rd
  rw [List.getD_eq_getElem?_getD, List.getElem?_replicate]
  by_cases h : j.toNat < n
  · rw [if_pos h]; rfl
  · rw [if_neg h]; rfl
/-- Words in which the headers of blocks stand, and beside them what stood there. -/
def Heads (w v : List Int) (l : List S51) : Prop :=
  v.length = w.length ∧ (∀ b ∈ l, rd v b.f0 = headOf b) ∧ ∀ j : Int, 0 ≤ j → (∀ b ∈ l, j ≠ b.f0) → rd v j = rd w j
theorem words_l0 {words : Int} (_hwd : words ≤ 512) (l : List S51) (hl : l.length ≤ 100000) (suf : List S51) : ∀ (pre : List S51) (a : Int) (fr : Bool) (w : List Int), l = pre ++ suf → 0 ≤ a → ChainP words a fr suf → (w.length : Int) = words →
    ∃ v, Ev (fun k => darninglaw14_Words.l0 k w l (l.length : Int) (pre.length : Int)) v ∧ Heads w v suf := by
  induction suf with
  | nil =>
    intro pre a fr w he h0 hC hw
    exact ⟨w, Ev.step (fun k => by rw [darninglaw14_Words.l0]) (ev_neg (by rw [he]; simp) (Ev.now _)), rfl, fun b hb => absurd hb (by simp), fun j _ _ => rfl⟩
  | cons x suf ih =>
    intro pre a fr w he h0 hC hw
    have hlt : (pre.length : Int) < (l.length : Int) := by rw [he]; simp; omega
    have em : rd_T51 l (pre.length : Int) = x := by rw [he]; exact rdt_mid pre suf x
    have w1 : wrap64 ((pre.length : Int) + 1) = ((pre ++ [x]).length : Int) := by rw [w64 (by omega)]; simp
    have he2 : l = (pre ++ [x]) ++ suf := by rw [he]; simp
    obtain ⟨c0, c1, c2, c3, c4, c5⟩ := hC
    obtain ⟨v, hv, v1, v2, v3⟩ := ih (pre ++ [x]) (a + x.f1) (!x.f2) (w.set x.f0.toNat (headOf x)) he2 (by omega) c5 (by rw [List.length_set]; exact hw)
    have hup : ∀ b ∈ suf, x.f0 < b.f0 := fun b hb => by have := chain_mem c5 b hb; omega
    refine ⟨v, Ev.step (fun k => by rw [darninglaw14_Words.l0]) ?_, by rw [v1, List.length_set], fun b hb => ?_, fun j j0 hj => ?_⟩
    · rw [em, w1, rword_eq, word_eq, if_pos ⟨c1, c2⟩]
      exact ev_pos hlt (ev_pos (by omega) (ev_pos hlt (ev_pos (by omega) (ev_pos (by omega) (ev_bindc rfl (ev_pos (by omega) hv))))))
    · rcases List.mem_cons.1 hb with hb | hb
      · rw [hb, v3 x.f0 (by omega) (fun c hc => by have := hup c hc; omega), rd_set _ _ (by omega), if_pos rfl]
      · exact v2 b hb
    · rw [v3 j j0 (fun b hb => hj b (by simp [hb])), rd_set _ _ (by omega), if_neg (by have := hj x (by simp); omega)]
theorem words_ev {l : List S51} {words : Int} (hl : l.length ≤ 100000) (h : MayB l words) : ∃ v, Ev (fun k => darninglaw14_Words.f k l words) v ∧ Heads (List.replicate words.toNat 0) v l := by
  have hw := h.1
  unfold MayW at hw
  have e : mx 0 (mn words 512) = words := by unfold mx mn; (repeat' split) <;> omega
  unfold darninglaw14_Words.f
  rw [e]
  obtain ⟨v, h1, h2⟩ := words_l0 hw.2.1 l hl l [] 0 false (List.replicate words.toNat 0) rfl (Int.le_refl _) h.2 (by simp; omega)
  exact ⟨v, ev_pos (by omega) (ev_pos (by omega) h1), h2⟩
theorem heads_wds {l : List S51} {words : Int} {v : List Int} (h : MayB l words) (hv : Heads (List.replicate words.toNat 0) v l) : Wds v ∧ (v.length : Int) = words := by
  have hw := h.1
  unfold MayW at hw
  have hlen : (v.length : Int) = words := by rw [hv.1, List.length_replicate]; omega
  refine ⟨⟨by omega, fun j => ?_⟩, hlen⟩
  by_cases hj : 0 ≤ j
  · by_cases hb : ∃ b ∈ l, j = b.f0
    · obtain ⟨b, hb, rfl⟩ := hb
      have := chain_mem h.2 b hb
      rw [hv.2.1 b hb]
      unfold headOf
      cases b.f2
      · rw [if_neg (by decide)]; omega
      · rw [if_pos rfl]; omega
    · rw [hv.2.2 j hj (fun b hb2 e => hb ⟨b, hb2, e⟩), rd_rep]; omega
  · have e : rd v j = rd v 0 := by unfold rd; rw [show j.toNat = (0 : Int).toNat from by omega]
    rw [e]
    by_cases hb : ∃ b ∈ l, (0 : Int) = b.f0
    · obtain ⟨b, hb, hb0⟩ := hb
      have := chain_mem h.2 b hb
      rw [hb0, hv.2.1 b hb]
      unfold headOf
      cases b.f2
      · rw [if_neg (by decide)]; omega
      · rw [if_pos rfl]; omega
    · rw [hv.2.2 0 (by omega) (fun b hb2 e => hb ⟨b, hb2, e⟩), rd_rep]; omega
/-- The blocks of words in which the headers of blocks stand. -/
theorem heads_blocks {l : List S51} {words : Int} {v : List Int} (h : MayB l words) (hv : Heads (List.replicate words.toNat 0) v l) : Ev (fun k => chain_Blocks.f k v) (l, true) := by
  obtain ⟨hW, hlen⟩ := heads_wds h hv
  exact blocks_yes hW (parse_of (fr := false) (by rw [hlen]; exact h.2) hv.2.1) (by rw [hlen]; exact h)
/-- A word that is no header where a block began: no blocks are read. -/
theorem parse_bad {v : List Int} {words : Int} (b : S51) (suf : List S51) (hb : ¬ (2 ≤ rd v b.f0 / 2 ∧ rd v b.f0 / 2 ≤ 512)) (hv : (v.length : Int) = words) (pre : List S51) : ∀ {a : Int} {fr : Bool}, ChainP words a fr (pre ++ b :: suf) → (∀ c ∈ pre, rd v c.f0 = headOf c) → ∀ m, ¬ ParseP v a m := by
  induction pre with
  | nil =>
    intro a fr h hp m hm
    obtain ⟨c0, c1, c2, c3, c4, c5⟩ := h
    cases m with
    | nil => have hm : (v.length : Int) ≤ a := hm; omega
    | cons c m =>
      obtain ⟨m0, m1, m2, m3, _⟩ := hm
      rw [← c0] at m2 m3
      exact hb ⟨m2, m3⟩
  | cons p pre ih =>
    intro a fr h hp m hm
    obtain ⟨c0, c1, c2, c3, c4, c5⟩ := h
    cases m with
    | nil => have hm : (v.length : Int) ≤ a := hm; omega
    | cons c m =>
      obtain ⟨m0, m1, m2, m3, m4, m5, m6⟩ := hm
      have hh := hp p (by simp)
      rw [c0] at hh
      rw [hh, (head_r p).1] at m4
      rw [m4] at m6
      exact ih c5 (fun q hq => hp q (by simp [hq])) m m6
/-- The last header is of a greater block: what is read reaches beyond the end. -/
theorem parse_over {v : List Int} {words : Int} (b : S51) (hb : b.f1 < rd v b.f0 / 2) (hv : (v.length : Int) = words) (pre : List S51) : ∀ {a : Int} {fr : Bool}, ChainP words a fr (pre ++ [b]) → (∀ c ∈ pre, rd v c.f0 = headOf c) → ∀ (m : List S51) (fr2 : Bool), ParseP v a m → ¬ ChainP words a fr2 m := by
  induction pre with
  | nil =>
    intro a fr h hp m fr2 hm hC
    obtain ⟨c0, c1, c2, c3, c4, c5⟩ := h
    have c5 : a + b.f1 = words := c5
    cases m with
    | nil => have hm : (v.length : Int) ≤ a := hm; omega
    | cons c m =>
      obtain ⟨m0, m1, m2, m3, m4, _⟩ := hm
      rw [← c0] at m4
      have := hC.2.2.2.1
      omega
  | cons p pre ih =>
    intro a fr h hp m fr2 hm hC
    obtain ⟨c0, c1, c2, c3, c4, c5⟩ := h
    cases m with
    | nil => have hm : (v.length : Int) ≤ a := hm; omega
    | cons c m =>
      obtain ⟨m0, m1, m2, m3, m4, m5, m6⟩ := hm
      have hh := hp p (by simp)
      rw [c0] at hh
      rw [hh, (head_r p).1] at m4
      obtain ⟨d0, d1, d2, d3, d4, d5⟩ := hC
      rw [m4] at m6 d5
      exact ih c5 (fun q hq => hp q (by simp [hq])) m _ m6 d5
theorem split_at {l : List S51} {j : Int} (h0 : 0 ≤ j) (h1 : j < l.length) : l = l.take j.toNat ++ rd_T51 l j :: l.drop (j.toNat + 1) := by
  obtain ⟨h, e⟩ := rdt_get h0 h1
  rw [e, ← List.drop_eq_getElem_cons h]
  exact (List.take_append_drop _ _).symm
theorem wds_set {v : List Int} {i : Nat} {x : Int} (hv : Wds v) (h0 : 0 ≤ x) (h1 : x ≤ 18446744073709551615) : Wds (v.set i x) := by
  refine ⟨by rw [List.length_set]; exact hv.1, fun j => ?_⟩
  by_cases hi : i < v.length
  · rw [rd_set x j hi]
    by_cases h : j.toNat = i
    · rw [if_pos h]; exact ⟨h0, h1⟩
    · rw [if_neg h]; exact hv.2 j
  · rw [List.set_eq_of_length_le (by omega)]; exact hv.2 j
theorem awake_ev : Ev (fun k => darninglaw14_awake.f k) true := Ev.of (fun k => darninglaw14_awake.mono k) (k := 30) (by decide +kernel)
theorem ChainSpoilt : darninglaw14_ChainSpoilt.Pure := by
  intro l words a more hm hy hw h1 h2 h3
  apply Ev.rounds
  unfold darninglaw14_ChainSpoilt.f
  have outp : Ev (fun k => darninglaw14_ChainSpoilt.j0 k l words a more true) true := by
    refine Ev.step (fun k => by rw [darninglaw14_ChainSpoilt.j0]) ?_
    exact ev_pos rfl (ev_bind awake_ev (Ev.now _))
  refine ev_ite (fun _ => outp) (fun c1 => ev_ite (fun _ => outp) (fun c2 => ?_))
  by_cases hC : MayB l words
  case neg => exact ev_bind (mayb_no (by omega) hC) outp
  refine ev_bind (mayb_yes (by omega) hC) ?_
  refine Ev.step (fun k => by rw [darninglaw14_ChainSpoilt.j0]) ?_
  refine ev_neg (by decide) ?_
  have hwd := hC.1
  unfold MayW at hwd
  rw [u64w (l.length : Int), show (l.length : Int) % 18446744073709551616 = l.length from by omega]
  generalize hn : (l.length : Int) = n at c1 c2
  rw [modw a n (by omega) (by omega), modw more 100 (by omega) (by omega)]
  have x0 := Int.emod_nonneg (a % 18446744073709551616) (b := n) (by omega)
  have x1 := Int.emod_lt_of_pos (a % 18446744073709551616) (b := n) (by omega)
  generalize a % 18446744073709551616 % n = x at x0 x1 ⊢
  have hx := chain_rd hC.2 x0 (by omega)
  rw [w64 (n := n - 1) (by omega)]
  have hz := chain_rd hC.2 (j := n - 1) (by omega) (by omega)
  have hmore : 0 ≤ more % 18446744073709551616 % 100 ∧ more % 18446744073709551616 % 100 < 100 := by omega
  rw [w64 (n := (rd_T51 l (n - 1)).f1 + 1) (by omega), w64 (n := (rd_T51 l (n - 1)).f1 + 1 + more % 18446744073709551616 % 100) (by omega), u64w more, u64_and3 (by omega) (by omega)]
  refine ev_neg (by omega) ?_
  obtain ⟨v, hv1, hv2⟩ := words_ev (l := l) (by omega) hC
  obtain ⟨hW, hlen⟩ := heads_wds hC hv2
  refine ev_bind hv1 (ev_pos x0 (ev_pos x1 (ev_pos hx.1 (ev_pos (by omega) ?_))))
  have no1 : Ev (fun k => chain_Blocks.f k (v.set (rd_T51 l x).f0.toNat (more % 18446744073709551616 % 4))) (([] : List S51), false) := by
    refine blocks_no (wds_set hW (by omega) (by omega)) (fun m hp _ => ?_)
    have hs := split_at (l := l) x0 (by omega)
    have hC2 := hC.2
    rw [hs] at hC2
    refine parse_bad (words := words) (rd_T51 l x) _ ?_ (by rw [List.length_set]; exact hlen) (l.take x.toNat) hC2 (fun c hc => ?_) m hp
    · rw [rd_set _ _ (by omega), if_pos rfl]; omega
    · have hup := chain_up hC2
      have := (List.pairwise_append.1 hup).2.2 c hc (rd_T51 l x) (by simp)
      have hcl : c ∈ l := List.mem_of_mem_take hc
      have hcr := chain_mem hC.2 c hcl
      rw [rd_set _ _ (by omega), if_neg (by omega)]
      exact hv2.2.1 c hcl
  refine ev_bind no1 (ev_bind hv1 (ev_pos (by omega) (ev_pos (by omega) ?_)))
  refine ev_bindc (word_eq _ _) (ev_pos hz.1 (ev_pos (by omega) ?_))
  generalize hxx : (if 2 ≤ (rd_T51 l (n - 1)).f1 + 1 + more % 18446744073709551616 % 100 ∧ (rd_T51 l (n - 1)).f1 + 1 + more % 18446744073709551616 % 100 ≤ 512 then 2 * ((rd_T51 l (n - 1)).f1 + 1 + more % 18446744073709551616 % 100) + (if (rd_T51 l (n - 1)).f2 = true then (1 : Int) else 0) else 0) = h
  have hb01 : (if (rd_T51 l (n - 1)).f2 = true then (1 : Int) else 0) = 0 ∨ (if (rd_T51 l (n - 1)).f2 = true then (1 : Int) else 0) = 1 := by
    cases (rd_T51 l (n - 1)).f2
    · exact Or.inl (if_neg (by decide))
    · exact Or.inr (if_pos rfl)
  have hh : (h / 2 = 0 ∧ h = 0) ∨ ((rd_T51 l (n - 1)).f1 < h / 2 ∧ 0 ≤ h ∧ h ≤ 2000) := by
    rw [← hxx]
    by_cases hc : 2 ≤ (rd_T51 l (n - 1)).f1 + 1 + more % 18446744073709551616 % 100 ∧ (rd_T51 l (n - 1)).f1 + 1 + more % 18446744073709551616 % 100 ≤ 512
    · rw [if_pos hc]; right; omega
    · rw [if_neg hc]; left; omega
  have hs := split_at (l := l) (j := n - 1) (by omega) (by omega)
  have hd : l.drop ((n - 1).toNat + 1) = [] := List.drop_eq_nil_of_le (by omega)
  rw [hd] at hs
  have hC2 := hC.2
  rw [hs] at hC2
  have heads : ∀ c ∈ l.take (n - 1).toNat, rd (v.set (rd_T51 l (n - 1)).f0.toNat h) c.f0 = headOf c := by
    intro c hc
    have hup := chain_up hC2
    have := (List.pairwise_append.1 hup).2.2 c hc (rd_T51 l (n - 1)) (by simp)
    have hcl : c ∈ l := List.mem_of_mem_take hc
    have hcr := chain_mem hC.2 c hcl
    rw [rd_set _ _ (by omega), if_neg (by omega)]
    exact hv2.2.1 c hcl
  have no2 : Ev (fun k => chain_Blocks.f k (v.set (rd_T51 l (n - 1)).f0.toNat h)) (([] : List S51), false) := by
    refine blocks_no (wds_set hW (by omega) (by omega)) (fun m hp hmm => ?_)
    have hl2 : (((v.set (rd_T51 l (n - 1)).f0.toNat h).length : Nat) : Int) = words := by rw [List.length_set]; exact hlen
    have hrd : rd (v.set (rd_T51 l (n - 1)).f0.toNat h) (rd_T51 l (n - 1)).f0 = h := by rw [rd_set _ _ (by omega), if_pos rfl]
    rcases hh with hh | hh
    · exact parse_bad (words := words) (rd_T51 l (n - 1)) [] (by rw [hrd]; omega) hl2 _ hC2 heads m hp
    · rw [hl2] at hmm
      exact parse_over (words := words) (rd_T51 l (n - 1)) (by rw [hrd]; exact hh.1) hl2 _ hC2 heads m false hp hmm.2
  exact ev_bind no2 (ev_neg (by decide) (ev_neg (by decide) (ev_bind awake_ev (Ev.now _))))

end Go.Proofs.Ytfgggmojdefidaa.Pure
