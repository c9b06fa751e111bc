/- ChainEach: of blocks that may be, written as headers, the same blocks are read; each word is found in the block that it is in; what is free is told whole. No condition. -/
import Derived.Test.YtfgggmojdefidaaXChainEachx
namespace Go.Proofs.Ytfgggmojdefidaa.Pure
open Go.RowKit Go.Proofs.Ytfgggmojdefidaa.XChainEach Go.Proofs.YtfgggmojdefidaaW.PrintWords Go.Proofs.YtfgggmojdefidaaW.PrintLast

theorem wf64 {a : Int} (h : (Lit.int .i64 a).wf = true) : -9223372036854775808 ≤ a ∧ a ≤ 9223372036854775807 := by
  simp [Lit.wf, IntKind.min, IntKind.max, IntKind.bits, IntKind.signed] at h
  omega
theorem wfu64 {a : Int} (h : (Lit.int .u64 a).wf = true) : 0 ≤ a ∧ a ≤ 18446744073709551615 := by
  simp [Lit.wf, IntKind.min, IntKind.max, IntKind.bits, IntKind.signed] at h
  omega
theorem u64w (n : Int) : IntKind.u64.wrap n = n % 18446744073709551616 := by simp [IntKind.wrap, IntKind.bits, IntKind.signed]
theorem w64 {n : Int} (h : -9223372036854775808 ≤ n ∧ n ≤ 9223372036854775807) : wrap64 n = n := by unfold wrap64; omega
theorem tmodp {a b : Int} (h : 0 ≤ a) : Int.tmod a b = a % b := Int.tmod_eq_emod_of_nonneg h
theorem tdivp {a b : Int} (h : 0 ≤ a) : Int.tdiv a b = a / b := Int.tdiv_eq_ediv_of_nonneg h
theorem u64_wraps (n : Int) (h₀ : 0 ≤ n) (h₁ : n < 2 ^ 64) : IntKind.u64.wrap n = n := by rw [u64w]; omega
theorem u64_mask (i : Nat) (hi : i ≤ 64) (x : Int) (h₀ : 0 ≤ x) (h₁ : x < 2 ^ 64) : Go.bits .and .u64 x (2 ^ i - 1) = x % 2 ^ i :=
  bits_mask .u64 64 (by decide) u64_wraps i hi x h₀ h₁
theorem u64_and1 {x : Int} (h₀ : 0 ≤ x) (h₁ : x ≤ 18446744073709551615) : Go.bits .and .u64 x 1 = x % 2 := u64_mask 1 (by decide) x h₀ (by omega)
theorem u64_and3 {x : Int} (h₀ : 0 ≤ x) (h₁ : x ≤ 18446744073709551615) : Go.bits .and .u64 x 3 = x % 4 := u64_mask 2 (by decide) x h₀ (by omega)
theorem u64_or1 {x : Int} (h₀ : 0 ≤ x) (h₁ : x ≤ 18446744073709551615) (h : x % 2 = 0) : Go.bits .or .u64 x 1 = x + 1 :=
  bits_join .u64 64 (by decide) u64_wraps 1 x 1 h₀ h (by omega) (by decide) (by decide) (by decide)
theorem modw (a m : Int) (h : 0 < m) (hm : m ≤ 1000000) : wrap64 (Int.tmod (IntKind.u64.wrap a) m) = (a % 18446744073709551616) % m := by
  rw [u64w, tmodp (by omega), w64]
  have := Int.emod_nonneg (a % 18446744073709551616) (b := m) (by omega)
  have := Int.emod_lt_of_pos (a % 18446744073709551616) h
  omega
theorem ev_pos {α : Type} {c : Prop} [Decidable c] {a b : Nat → Option α} {r : α} (h : c) (k : Ev a r) : Ev (fun n => if c then a n else b n) r := by
  simp only [if_pos h]; exact k
theorem ev_neg {α : Type} {c : Prop} [Decidable c] {a b : Nat → Option α} {r : α} (h : ¬ c) (k : Ev b r) : Ev (fun n => if c then a n else b n) r := by
  simp only [if_neg h]; exact k
theorem ev_ite {α : Type} {c : Prop} [Decidable c] {a b : Nat → Option α} {r : α} (h1 : c → Ev a r) (h2 : ¬ c → Ev b r) : Ev (fun n => if c then a n else b n) r := by
  by_cases h : c
  · exact ev_pos h (h1 h)
  · exact ev_neg h (h2 h)
theorem ev_bindc {α β : Type} {o : Option α} {f : Nat → α → Option β} {a : α} {r : β} (h : o = some a) (k : Ev (fun n => f n a) r) : Ev (fun n => o.bind (f n)) r := by
  subst h; exact k
theorem ev_bind {α β : Type} {g : Nat → Option α} {f : Nat → α → Option β} {a : α} {r : β} (h : Ev g a) (k : Ev (fun n => f n a) r) : Ev (fun n => (g n).bind (f n)) r := Ev.bind h k
theorem ev_now {α : Type} {r s : α} (h : s = r) : Ev (fun _ => some s) r := by subst h; exact Ev.now _
theorem ev_some {α : Type} {o : Option α} {r : α} (h : o = some r) : Ev (fun _ => o) r := ⟨0, fun _ _ => h⟩
theorem ev_one {α : Type} {g : Nat → Option α} {r : α} (h : ∀ k, g (k + 1) = some r) : Ev g r := ⟨1, fun k hk => by obtain ⟨m, rfl⟩ : ∃ m, k = m + 1 := ⟨k - 1, by omega⟩; exact h m⟩
theorem ev_two {α : Type} {g : Nat → Option α} {r : α} (h : ∀ k, g (k + 2) = some r) : Ev g r := ⟨2, fun k hk => by obtain ⟨m, rfl⟩ : ∃ m, k = m + 2 := ⟨k - 2, by omega⟩; exact h m⟩
theorem rdt_mid (pre suf : List S51) (x : S51) : rd_T51 (pre ++ x :: suf) (pre.length : Int) = x := by
  unfold rd_T51
  rw [List.getD_eq_getElem?_getD, Int.toNat_natCast, List.getElem?_append_right (by omega)]
  simp
theorem rdt_last (pre suf : List S51) (x : S51) : rd_T51 ((pre ++ [x]) ++ suf) (((pre ++ [x]).length : Int) - 1) = x := by
  have e : (((pre ++ [x]).length : Int) - 1) = (pre.length : Int) := by simp
  rw [e, List.append_assoc]
  exact rdt_mid pre suf x
theorem rdt_get {l : List S51} {j : Int} (h0 : 0 ≤ j) (h1 : j < l.length) : ∃ h : j.toNat < l.length, rd_T51 l j = l[j.toNat]'h := by
  refine ⟨by omega, ?_⟩
  unfold rd_T51
  rw [List.getD_eq_getElem?_getD, List.getElem?_eq_getElem (by omega)]
  rfl
theorem rdt_mem {l : List S51} {j : Int} (h0 : 0 ≤ j) (h1 : j < l.length) : rd_T51 l j ∈ l := by
  obtain ⟨h, e⟩ := rdt_get h0 h1
  rw [e]
  exact List.getElem_mem h
/-- Blocks side by side, from a word on; fr: is the block ahead of them free? -/
def ChainP (words : Int) : Int → Bool → List S51 → Prop
  | a, _, [] => a = words
  | a, fr, b :: l => b.f0 = a ∧ 2 ≤ b.f1 ∧ b.f1 ≤ 512 ∧ b.f1 ≤ words - a ∧ (fr = true → b.f2 = true) ∧ ChainP words (a + b.f1) (!b.f2) l
def MayW (words : Int) : Prop := 8 ≤ words ∧ words ≤ 512 ∧ words % 8 = 0
instance (words : Int) : Decidable (MayW words) := by unfold MayW; infer_instance
def MayB (l : List S51) (words : Int) : Prop := MayW words ∧ ChainP words 0 false l
theorem chain_mem {words : Int} {l : List S51} : ∀ {a : Int} {fr : Bool}, ChainP words a fr l → ∀ b ∈ l, a ≤ b.f0 ∧ 2 ≤ b.f1 ∧ b.f1 ≤ 512 ∧ b.f0 + b.f1 ≤ words := by
  induction l with
  | nil => exact fun _ b hb => absurd hb (by simp)
  | cons c l ih =>
    intro a fr h b hb
    obtain ⟨h0, h1, h2, h3, h4, h5⟩ := h
    rcases List.mem_cons.1 hb with hb | hb
    · subst hb; omega
    · have := ih h5 b hb; omega
theorem chain_up {words : Int} {l : List S51} : ∀ {a : Int} {fr : Bool}, ChainP words a fr l → l.Pairwise (fun b c => b.f0 + b.f1 ≤ c.f0) := by
  induction l with
  | nil => exact fun _ => List.Pairwise.nil
  | cons c l ih =>
    intro a fr h
    obtain ⟨h0, h1, h2, h3, h4, h5⟩ := h
    refine List.pairwise_cons.2 ⟨fun b hb => ?_, ih h5⟩
    have := chain_mem h5 b hb
    omega
theorem chain_le {words : Int} {l : List S51} : ∀ {a : Int} {fr : Bool}, ChainP words a fr l → a ≤ words := by
  induction l with
  | nil => exact fun h => Int.le_of_eq h
  | cons c l ih =>
    intro a fr h
    obtain ⟨h0, h1, h2, h3, h4, h5⟩ := h
    omega
theorem chain_len {words : Int} {l : List S51} : ∀ {a : Int} {fr : Bool}, ChainP words a fr l → a + 2 * l.length ≤ words := by
  induction l with
  | nil => intro a fr h; have : a = words := h; simp; omega
  | cons c l ih =>
    intro a fr h
    obtain ⟨h0, h1, h2, h3, h4, h5⟩ := h
    have := ih h5
    simp; omega
theorem chain_rd {words : Int} {l : List S51} (h : ChainP words 0 false l) {j : Int} (h0 : 0 ≤ j) (h1 : j < l.length) :
    0 ≤ (rd_T51 l j).f0 ∧ 2 ≤ (rd_T51 l j).f1 ∧ (rd_T51 l j).f1 ≤ 512 ∧ (rd_T51 l j).f0 + (rd_T51 l j).f1 ≤ words := chain_mem h _ (rdt_mem h0 h1)
theorem chain_lt {words : Int} {l : List S51} (h : ChainP words 0 false l) {i j : Int} (h0 : 0 ≤ i) (h1 : i < j) (h2 : j < l.length) : (rd_T51 l i).f0 + (rd_T51 l i).f1 ≤ (rd_T51 l j).f0 := by
  obtain ⟨hi, ei⟩ := rdt_get (l := l) h0 (by omega)
  obtain ⟨hj, ej⟩ := rdt_get (l := l) (j := j) (by omega) h2
  rw [ei, ej]
  exact List.pairwise_iff_getElem.1 (chain_up h) _ _ hi hj (by omega)
/-- Is the last one of some blocks free? -/
def frOf (l : List S51) : Bool := match l.getLast? with | some b => !b.f2 | none => false
theorem frOf_snoc (l : List S51) (b : S51) : frOf (l ++ [b]) = !b.f2 := by simp [frOf]
theorem frOf_pos {l : List S51} (h : frOf l = true) : ∃ m b, l = m ++ [b] ∧ b.f2 = false := by
  rcases List.eq_nil_or_concat l with rfl | ⟨m, b, rfl⟩
  · simp [frOf] at h
  · refine ⟨m, b, by simp, ?_⟩
    simpa [frOf] using h
theorem cmayw_eq (n : Int) : chain_mayWords.f n = some (decide (8 ≤ n ∧ n ≤ 512 ∧ n % 8 = 0)) := by
  unfold chain_mayWords.f
  by_cases h1 : n ≥ 8
  · rw [if_pos h1]
    by_cases h2 : n ≤ 512
    · rw [if_pos h2, tmodp (by omega)]
      congr 1
      rw [Bool.eq_iff_iff, beq_iff_eq, decide_eq_true_iff]
      exact ⟨fun h => ⟨h1, h2, h⟩, fun h => h.2.2⟩
    · rw [if_neg h2, decide_eq_false (by omega)]
  · rw [if_neg h1, decide_eq_false (by omega)]
theorem bmay_eq (n : Int) : block_May.f n = some (decide (2 ≤ n ∧ n ≤ 512)) := by
  unfold block_May.f
  by_cases h2 : n ≥ 2
  · rw [if_pos h2]; congr 1; rw [Bool.eq_iff_iff]; simp only [decide_eq_true_iff]; omega
  · rw [if_neg h2, decide_eq_false (by omega)]
theorem cmay_l0 {words : Int} (hw : words ≤ 100000) (suf : List S51) : ∀ (pre : List S51) (a : Int) (fr : Bool), 0 ≤ a → a ≤ words → (pre ++ suf).length ≤ 100000 →
    ∃ b, Ev (fun k => chain_May.l0 k words a fr (pre ++ suf) ((pre ++ suf).length : Int) (pre.length : Int)) b ∧ (b = true ↔ ChainP words a fr suf) := by
  induction suf with
  | nil =>
    intro pre a fr h0 h1 hl
    refine ⟨a == words, Ev.step (fun k => by rw [chain_May.l0]) (ev_neg (by simp) (Ev.now _)), ?_⟩
    rw [beq_iff_eq]; exact Iff.rfl
  | cons x suf ih =>
    intro pre a fr h0 h1 hl
    have e : pre ++ x :: suf = (pre ++ [x]) ++ suf := by simp
    have hlen2 : ((pre ++ [x]).length : Int) = (pre.length : Int) + 1 := by simp
    have hlt : (pre.length : Int) < ((pre ++ x :: suf).length : Int) := by simp; omega
    have w1 : wrap64 ((pre.length : Int) + 1) = (pre.length : Int) + 1 := w64 (by simp at hl; omega)
    have w2 : wrap64 (words - a) = words - a := w64 (by omega)
    by_cases c1 : x.f0 = a
    · by_cases c2 : 2 ≤ x.f1 ∧ x.f1 ≤ 512
      · by_cases c4 : fr = true ∧ x.f2 = false
        · refine ⟨false, Ev.step (fun k => by rw [chain_May.l0]) ?_, ⟨fun h => (by cases h), fun h => by have := h.2.2.2.2.1 c4.1; rw [c4.2] at this; cases this⟩⟩
          rw [rdt_mid]
          exact ev_pos hlt (ev_pos (by omega) (ev_pos hlt (ev_pos c1 (ev_bindc (bmay_eq _) (ev_pos (by simp [c2]) (ev_pos c4.1 (ev_neg (by rw [c4.2]; decide) (Ev.now _))))))))
        · by_cases c3 : x.f1 > words - a
          · refine ⟨false, Ev.step (fun k => by rw [chain_May.l0]) ?_, ⟨fun h => (by cases h), fun h => by have := h.2.2.2.1; omega⟩⟩
            rw [rdt_mid, w2]
            refine ev_pos hlt (ev_pos (by omega) (ev_pos hlt (ev_pos c1 (ev_bindc (bmay_eq _) (ev_pos (by simp [c2]) ?_)))))
            exact ev_ite (fun _ => ev_ite (fun _ => ev_pos c3 (Ev.now _)) (fun _ => Ev.now _)) (fun _ => ev_pos c3 (Ev.now _))
          · have w3 : wrap64 (a + x.f1) = a + x.f1 := w64 (by omega)
            obtain ⟨b, hb, hi⟩ := ih (pre ++ [x]) (a + x.f1) (!x.f2) (by omega) (by omega) (by rw [← e]; exact hl)
            rw [hlen2, ← e] at hb
            refine ⟨b, Ev.step (fun k => by rw [chain_May.l0]) ?_, ?_⟩
            · rw [rdt_mid, w2, w1, w3]
              refine ev_pos hlt (ev_pos (by omega) (ev_pos hlt (ev_pos c1 (ev_bindc (bmay_eq _) (ev_pos (by simp [c2]) ?_)))))
              refine ev_ite (fun hf => ?_) (fun _ => ev_neg c3 hb)
              refine ev_pos ?_ (ev_neg c3 hb)
              cases hx : x.f2 with
              | true => rfl
              | false => exact absurd ⟨hf, hx⟩ c4
            · rw [hi]
              constructor
              · intro h
                exact ⟨c1, c2.1, c2.2, by omega, fun hf => by
                  cases hx : x.f2 with
                  | true => rfl
                  | false => exact absurd ⟨hf, hx⟩ c4, h⟩
              · exact fun h => h.2.2.2.2.2
      · refine ⟨false, Ev.step (fun k => by rw [chain_May.l0]) ?_, ⟨fun h => (by cases h), fun h => absurd ⟨h.2.1, h.2.2.1⟩ c2⟩⟩
        rw [rdt_mid]
        exact ev_pos hlt (ev_pos (by omega) (ev_pos hlt (ev_pos c1 (ev_bindc (bmay_eq _) (ev_neg (by simp; omega) (Ev.now _))))))
    · refine ⟨false, Ev.step (fun k => by rw [chain_May.l0]) ?_, ⟨fun h => (by cases h), fun h => absurd h.1 c1⟩⟩
      rw [rdt_mid]
      exact ev_pos hlt (ev_pos (by omega) (ev_pos hlt (ev_neg c1 (Ev.now _))))
theorem cmay_ev {l : List S51} (words : Int) (hl : l.length ≤ 100000) : ∃ b, Ev (fun k => chain_May.f k l words) b ∧ (b = true ↔ MayB l words) := by
  unfold chain_May.f
  by_cases h : 8 ≤ words ∧ words ≤ 512 ∧ words % 8 = 0
  · obtain ⟨b, hb, hi⟩ := cmay_l0 (words := words) (by omega) l [] 0 false (by omega) (by omega) hl
    refine ⟨b, ev_bindc (cmayw_eq words) (ev_pos (by simp [h]) hb), hi.trans ⟨fun hh => ⟨h, hh⟩, fun hh => hh.2⟩⟩
  · exact ⟨false, ev_bindc (cmayw_eq words) (ev_neg (by simpa using h) (Ev.now _)), ⟨fun hh => (by cases hh), fun hh => absurd hh.1 h⟩⟩
theorem cmay_yes {l : List S51} {words : Int} (hl : l.length ≤ 100000) (h : MayB l words) : Ev (fun k => chain_May.f k l words) true := by
  obtain ⟨b, hb, hi⟩ := cmay_ev words hl
  rwa [hi.2 h] at hb
theorem cmay_no {l : List S51} {words : Int} (hl : l.length ≤ 100000) (h : ¬ MayB l words) : Ev (fun k => chain_May.f k l words) false := by
  obtain ⟨b, hb, hi⟩ := cmay_ev words hl
  cases b with
  | true => exact absurd (hi.1 rfl) h
  | false => exact hb
theorem parse_eq {w : Int} (h : 0 ≤ w ∧ w ≤ 18446744073709551615) :
    block_Parse.f w = if 2 ≤ w / 2 ∧ w / 2 ≤ 512 then some (w / 2, w % 2 == 1, true) else some (0, false, false) := by
  unfold block_Parse.f block_May.f
  rw [u64_and1 h.1 h.2, w64 (by omega)]
  by_cases h1 : w / 2 > 512
  · rw [if_pos h1, if_neg (by omega)]
  · rw [if_neg h1]
    by_cases h2 : w / 2 ≥ 2
    · rw [if_pos h2, if_pos (by omega)]
      simp only [Option.bind_some]
      rw [if_pos (by simp; omega)]
    · rw [if_neg h2, if_neg (by omega)]; rfl
theorem word_eq (n : Int) (u : Bool) : block_Word.f n u = some (if 2 ≤ n ∧ n ≤ 512 then 2 * n + (if u then 1 else 0) else 0) := by
  unfold block_Word.f block_May.f
  by_cases h : 2 ≤ n ∧ n ≤ 512
  · rw [if_pos (by omega), if_pos h]
    simp only [Option.bind_some]
    rw [if_pos (by simp; omega)]
    have e : IntKind.u64.wrap (IntKind.u64.wrap n * 2) = 2 * n := by rw [u64w, u64w]; omega
    rw [e]
    cases u
    · simp
    · simp only [if_true]; rw [u64_or1 (by omega) (by omega) (by omega)]
  · rw [if_neg h]
    by_cases h2 : n ≥ 2
    · rw [if_pos h2]; simp only [Option.bind_some]; rw [if_neg (by simp; omega)]
    · rw [if_neg h2]; rfl
/-- The words that the statement speaks of. -/
def Wds (w : List Int) : Prop := w.length ≤ 2000 ∧ ∀ j : Int, 0 ≤ rd w j ∧ rd w j ≤ 18446744073709551615
theorem wds_of {w : List Int} (h : ∀ x ∈ w, (Lit.int .u64 x).wf = true) (hl : w.length ≤ 2000) : Wds w := by
  refine ⟨hl, fun j => ?_⟩
  unfold rd
  rw [List.getD_eq_getElem?_getD]
  by_cases hj : j.toNat < w.length
  · rw [List.getElem?_eq_getElem hj]
    exact wfu64 (h _ (List.getElem_mem hj))
  · rw [List.getElem?_eq_none (by omega)]; exact ⟨by decide, by decide⟩
/-- The blocks that words are, from a word on. -/
def ParseP (w : List Int) : Int → List S51 → Prop
  | a, [] => (w.length : Int) ≤ a
  | a, b :: l => a < w.length ∧ b.f0 = a ∧ 2 ≤ rd w a / 2 ∧ rd w a / 2 ≤ 512 ∧ b.f1 = rd w a / 2 ∧ b.f2 = (rd w a % 2 == 1) ∧ ParseP w (a + b.f1) l
theorem blk_ext {a b : S51} (h0 : a.f0 = b.f0) (h1 : a.f1 = b.f1) (h2 : a.f2 = b.f2) : a = b := by
  cases a; cases b; simp at h0 h1 h2; simp [h0, h1, h2]
theorem parse_one {w : List Int} {l : List S51} : ∀ {a : Int} {m : List S51}, ParseP w a l → ParseP w a m → l = m := by
  induction l with
  | nil =>
    intro a m h h'
    cases m with
    | nil => rfl
    | cons b m => have h1 : (w.length : Int) ≤ a := h; have := h'.1; omega
  | cons b l ih =>
    intro a m h h'
    cases m with
    | nil => have h1 : (w.length : Int) ≤ a := h'; have := h.1; omega
    | cons c m =>
      obtain ⟨a0, a1, a2, a3, a4, a5, a6⟩ := h
      obtain ⟨b0, b1, b2, b3, b4, b5, b6⟩ := h'
      have e : b = c := blk_ext (by rw [a1, b1]) (by rw [a4, b4]) (by rw [a5, b5])
      subst e
      rw [ih a6 b6]
def BlocksP (w : List Int) (r : List S51 × Bool) : Prop :=
  (ParseP w 0 r.1 ∧ MayB r.1 w.length ∧ r.2 = true) ∨ ((∀ l, ParseP w 0 l → ¬ MayB l w.length) ∧ r = ([], false))
theorem blocks_one {w : List Int} {r r' : List S51 × Bool} (h : BlocksP w r) (h' : BlocksP w r') : r = r' := by
  rcases h with ⟨a, b, c⟩ | ⟨a, b⟩
  · rcases h' with ⟨a', b', c'⟩ | ⟨a', b'⟩
    · exact Prod.ext (parse_one a a') (by rw [c, c'])
    · exact absurd b (a' _ a)
  · rcases h' with ⟨a', b', c'⟩ | ⟨a', b'⟩
    · exact absurd b' (a _ a')
    · rw [b, b']
theorem blocks_l0 {w : List Int} (hw : Wds w) (d : Nat) : ∀ (acc : List S51) (a : Int), 0 ≤ a → (w.length : Int) ≤ a + d → a ≤ 3000 → (acc.length : Int) ≤ a →
    ∃ r, Ev (fun k => chain_Blocks.l0 k w acc a) r ∧ ((∃ l, ParseP w a l ∧ MayB (acc ++ l) w.length ∧ r = (acc ++ l, true)) ∨ ((∀ l, ParseP w a l → ¬ MayB (acc ++ l) w.length) ∧ r = ([], false))) := by
  have hlen := hw.1
  have fin : ∀ (acc : List S51) (a : Int), 0 ≤ a → (w.length : Int) ≤ a → a ≤ 3000 → (acc.length : Int) ≤ a →
      ∃ r, Ev (fun k => chain_Blocks.l0 k w acc a) r ∧ ((∃ l, ParseP w a l ∧ MayB (acc ++ l) w.length ∧ r = (acc ++ l, true)) ∨ ((∀ l, ParseP w a l → ¬ MayB (acc ++ l) w.length) ∧ r = ([], false))) := by
    intro acc a h0 h1 h2 h3
    obtain ⟨b, hb, hi⟩ := cmay_ev (l := acc) (w.length : Int) (by omega)
    have pn : ∀ l, ParseP w a l → l = [] := fun l hl => by
      cases l with
      | nil => rfl
      | cons c l => have := hl.1; omega
    cases b with
    | true =>
      refine ⟨(acc, true), Ev.step (fun k => by rw [chain_Blocks.l0]) ?_, Or.inl ⟨[], h1, by rw [List.append_nil]; exact hi.1 rfl, by rw [List.append_nil]⟩⟩
      exact ev_neg (by omega) (ev_bind hb (ev_pos rfl (Ev.now _)))
    | false =>
      refine ⟨([], false), Ev.step (fun k => by rw [chain_Blocks.l0]) ?_, Or.inr ⟨fun l hl hm => ?_, rfl⟩⟩
      · exact ev_neg (by omega) (ev_bind hb (ev_neg (by decide) (Ev.now _)))
      · rw [pn l hl, List.append_nil] at hm
        have := hi.2 hm
        cases this
  induction d with
  | zero => intro acc a h0 h1; exact fin acc a h0 (by omega)
  | succ d ih =>
    intro acc a h0 h1 h2 h3
    by_cases ha : (w.length : Int) ≤ a
    · exact fin acc a h0 ha h2 h3
    · have hr := hw.2 a
      by_cases hp : 2 ≤ rd w a / 2 ∧ rd w a / 2 ≤ 512
      · obtain ⟨r, hb, hi⟩ := ih (acc ++ [(⟨a, rd w a / 2, rd w a % 2 == 1⟩ : S51)]) (a + rd w a / 2) (by omega) (by omega) (by omega) (by simp; omega)
        refine ⟨r, Ev.step (fun k => by rw [chain_Blocks.l0]) ?_, ?_⟩
        · rw [parse_eq hr, if_pos hp]
          refine ev_pos (by omega) (ev_pos h0 (ev_bindc rfl ?_))
          refine ev_pos rfl (ev_pos (by omega) ?_)
          rw [w64 (n := a + rd w a / 2) (by omega)]
          exact hb
        · rcases hi with ⟨l, q1, q2, q3⟩ | ⟨q1, q2⟩
          · refine Or.inl ⟨(⟨a, rd w a / 2, rd w a % 2 == 1⟩ : S51) :: l, ⟨by omega, rfl, hp.1, hp.2, rfl, rfl, q1⟩, ?_, ?_⟩
            · rw [List.append_assoc] at q2; exact q2
            · rw [q3, List.append_assoc]; rfl
          · refine Or.inr ⟨fun l hl => ?_, q2⟩
            cases l with
            | nil => have hl : (w.length : Int) ≤ a := hl; omega
            | cons b l =>
              obtain ⟨b0, b1, b2, b3, b4, b5, b6⟩ := hl
              have e : b = (⟨a, rd w a / 2, rd w a % 2 == 1⟩ : S51) := blk_ext b1 b4 b5
              rw [b4] at b6
              have := q1 l b6
              rw [List.append_assoc] at this
              rw [e]; exact this
      · refine ⟨([], false), Ev.step (fun k => by rw [chain_Blocks.l0]) ?_, Or.inr ⟨fun l hl => ?_, rfl⟩⟩
        · rw [parse_eq hr, if_neg hp]
          exact ev_pos (by omega) (ev_pos h0 (ev_bindc rfl (ev_neg (by decide) (Ev.now _))))
        · cases l with
          | nil => have hl : (w.length : Int) ≤ a := hl; omega
          | cons b l => exact absurd ⟨hl.2.2.1, hl.2.2.2.1⟩ hp
theorem blocks_ev {w : List Int} (hw : Wds w) : ∃ r, Ev (fun k => chain_Blocks.f k w) r ∧ BlocksP w r := by
  have hlen := hw.1
  obtain ⟨r, h1, h2⟩ := blocks_l0 hw w.length [] 0 (by omega) (by omega) (by omega) (by simp)
  refine ⟨r, h1, ?_⟩
  rcases h2 with ⟨l, a, b, c⟩ | ⟨a, b⟩
  · rw [c]; exact Or.inl ⟨a, b, rfl⟩
  · exact Or.inr ⟨a, b⟩
theorem blocks_yes {w : List Int} {l : List S51} (hw : Wds w) (hp : ParseP w 0 l) (hm : MayB l w.length) : Ev (fun k => chain_Blocks.f k w) (l, true) := by
  obtain ⟨r, h1, h2⟩ := blocks_ev hw
  have := blocks_one h2 (Or.inl ⟨hp, hm, rfl⟩ : BlocksP w (l, true))
  rwa [this] at h1
theorem blocks_no {w : List Int} (hw : Wds w) (h : ∀ l : List S51, ParseP w 0 l → ¬ MayB l w.length) : Ev (fun k => chain_Blocks.f k w) ([], false) := by
  obtain ⟨r, h1, h2⟩ := blocks_ev hw
  have := blocks_one h2 (Or.inr ⟨h, rfl⟩ : BlocksP w ([], false))
  rwa [this] at h1
/-- The header of a block. -/
def headOf (b : S51) : Int := 2 * b.f1 + (if b.f2 = true then 1 else 0)
theorem head_r (b : S51) : (headOf b / 2 = b.f1) ∧ ((headOf b % 2 == 1) = b.f2) := by
  unfold headOf
  cases b.f2
  · rw [if_neg (by decide)]; exact ⟨by omega, by rw [beq_eq_false_iff_ne]; omega⟩
  · rw [if_pos rfl]; exact ⟨by omega, by rw [beq_iff_eq]; omega⟩
/-- Words at which the blocks' headers stand are those blocks. -/
theorem parse_of {w : List Int} {l : List S51} : ∀ {a : Int} {fr : Bool}, ChainP w.length a fr l → (∀ b ∈ l, rd w b.f0 = headOf b) → ParseP w a l := by
  induction l with
  | nil => intro a fr h _; have h : a = w.length := h; show (w.length : Int) ≤ a; omega
  | cons b l ih =>
    intro a fr h hh
    obtain ⟨h0, h1, h2, h3, h4, h5⟩ := h
    have hb := hh b (by simp)
    rw [h0] at hb
    have hr := head_r b
    exact ⟨by omega, h0, by rw [hb, hr.1]; exact h1, by rw [hb, hr.1]; exact h2, by rw [hb, hr.1], by rw [hb, hr.2], ih h5 (fun c hc => hh c (by simp [hc]))⟩
theorem first_eq (n : Int) : chain_First.f n = some (if MayW n then (List.replicate n.toNat 0).set 0 (2 * n) else []) := by
  unfold chain_First.f
  rw [cmayw_eq]
  simp only [Option.bind_some]
  by_cases h : 8 ≤ n ∧ n ≤ 512 ∧ n % 8 = 0
  · rw [if_pos (by simp [h]), if_pos (by omega), if_pos (by omega), if_pos (show MayW n from h), word_eq, if_pos (by omega)]
    simp only [Option.bind_some]
    rw [if_pos (by simp; omega)]
    simp
  · rw [if_neg (by simpa using h), if_neg (show ¬ MayW n from h)]
def Counted (l : List S51) : Prop := (∀ b ∈ l, 2 ≤ b.f1 ∧ b.f1 ≤ 512) ∧ l.length ≤ 512
theorem maybe_l0 {l : List S51} (hl : l.length ≤ 100000) (suf : List S51) : ∀ pre : List S51, l = pre ++ suf →
    ∃ b, Ev (fun k => chain_mayBe.l0 k l l (l.length : Int) (pre.length : Int)) b ∧ (b = true ↔ (∀ x ∈ suf, 2 ≤ x.f1 ∧ x.f1 ≤ 512) ∧ l.length ≤ 512) := by
  induction suf with
  | nil =>
    intro pre he
    refine ⟨decide ((l.length : Int) ≤ 512), Ev.step (fun k => by rw [chain_mayBe.l0]) (ev_neg (by rw [he]; simp) (Ev.now _)), ?_⟩
    rw [decide_eq_true_iff]
    exact ⟨fun h => ⟨fun x hx => absurd hx (by simp), by omega⟩, fun h => by omega⟩
  | cons x suf ih =>
    intro pre he
    have hlt : (pre.length : Int) < (l.length : Int) := by rw [he]; simp; omega
    have em : rd_T51 l (pre.length : Int) = x := by rw [he]; exact rdt_mid pre suf x
    have w1 : wrap64 ((pre.length : Int) + 1) = ((pre ++ [x]).length : Int) := by rw [w64 (by omega)]; simp
    by_cases c : 2 ≤ x.f1 ∧ x.f1 ≤ 512
    · obtain ⟨b, hb, hi⟩ := ih (pre ++ [x]) (by rw [he]; simp)
      refine ⟨b, Ev.step (fun k => by rw [chain_mayBe.l0]) ?_, hi.trans ⟨fun h => ⟨fun y hy => ?_, h.2⟩, fun h => ⟨fun y hy => h.1 y (by simp [hy]), h.2⟩⟩⟩
      · rw [em, w1]
        exact ev_pos hlt (ev_pos (by omega) (ev_pos hlt (ev_bindc (bmay_eq _) (ev_pos (by simp [c]) hb))))
      · rcases List.mem_cons.1 hy with hy | hy
        · rw [hy]; exact c
        · exact h.1 y hy
    · refine ⟨false, Ev.step (fun k => by rw [chain_mayBe.l0]) ?_, ⟨fun h => (by cases h), fun h => absurd (h.1 x (by simp)) c⟩⟩
      rw [em]
      exact ev_pos hlt (ev_pos (by omega) (ev_pos hlt (ev_bindc (bmay_eq _) (ev_neg (by simpa using c) (Ev.now _)))))
theorem maybe_ev {l : List S51} (hl : l.length ≤ 100000) : ∃ b, Ev (fun k => chain_mayBe.f k l) b ∧ (b = true ↔ Counted l) :=
  maybe_l0 hl l [] rfl
/-- How many words are free. -/
def freeS : List S51 → Int
  | [] => 0
  | b :: l => (if b.f2 = true then 0 else b.f1) + freeS l
theorem freeS_cons (b : S51) (l : List S51) : freeS (b :: l) = (if b.f2 = true then 0 else b.f1) + freeS l := rfl
theorem free_r {l : List S51} (h : ∀ b ∈ l, 2 ≤ b.f1 ∧ b.f1 ≤ 512) : 0 ≤ freeS l ∧ freeS l ≤ 512 * l.length := by
  induction l with
  | nil => exact ⟨Int.le_refl _, Int.le_refl _⟩
  | cons b l ih =>
    have h1 := ih (fun c hc => h c (by simp [hc]))
    have h2 := h b (by simp)
    rw [freeS_cons]
    have e : ((b :: l).length : Int) = l.length + 1 := by simp
    rw [e]
    by_cases c : b.f2 = true
    · rw [if_pos c]; omega
    · rw [if_neg c]; omega
theorem free_l0 {l : List S51} (hl : l.length ≤ 100000) (suf : List S51) : ∀ (pre : List S51) (n : Int), l = pre ++ suf → (Counted l → 0 ≤ n ∧ n ≤ 512 * pre.length) →
    ∃ r, Ev (fun k => chain_Free.l0 k l n l (l.length : Int) (pre.length : Int)) r ∧ (Counted l → r = n + freeS suf) ∧ (¬ Counted l → r = n) := by
  induction suf with
  | nil =>
    intro pre n he hn
    refine ⟨n, Ev.step (fun k => by rw [chain_Free.l0]) (ev_neg (by rw [he]; simp) (Ev.now _)), fun _ => ?_, fun _ => rfl⟩
    show n = n + 0; omega
  | cons x suf ih =>
    intro pre n he hn
    have hlt : (pre.length : Int) < (l.length : Int) := by rw [he]; simp; omega
    have em : rd_T51 l (pre.length : Int) = x := by rw [he]; exact rdt_mid pre suf x
    have w1 : wrap64 ((pre.length : Int) + 1) = ((pre ++ [x]).length : Int) := by rw [w64 (by omega)]; simp
    have he2 : l = (pre ++ [x]) ++ suf := by rw [he]; simp
    have hl2 : ((pre ++ [x]).length : Int) = pre.length + 1 := by simp
    by_cases cu : x.f2 = true
    · obtain ⟨r, hr, h1, h2⟩ := ih (pre ++ [x]) n he2 (fun h => by have := hn h; omega)
      refine ⟨r, Ev.step (fun k => by rw [chain_Free.l0]) ?_, fun h => ?_, h2⟩
      · rw [em, w1]
        exact ev_pos hlt (ev_pos (by omega) (ev_pos hlt (ev_pos cu hr)))
      · rw [h1 h, freeS_cons, if_pos cu]; omega
    · obtain ⟨b, hb, hi⟩ := maybe_ev hl
      by_cases hc : Counted l
      · have hx : 2 ≤ x.f1 ∧ x.f1 ≤ 512 := hc.1 x (by rw [he]; simp)
        have hn1 := hn hc
        have h512 := hc.2
        obtain ⟨r, hr, h1, h2⟩ := ih (pre ++ [x]) (n + x.f1) he2 (fun h => by omega)
        refine ⟨r, Ev.step (fun k => by rw [chain_Free.l0]) ?_, fun h => ?_, fun h => absurd hc h⟩
        · rw [em, w1, w64 (n := n + x.f1) (by omega)]
          exact ev_pos hlt (ev_pos (by omega) (ev_pos hlt (ev_neg cu (ev_bind hb (ev_pos (hi.2 hc) hr)))))
        · rw [h1 h, freeS_cons, if_neg cu]; omega
      · obtain ⟨r, hr, h1, h2⟩ := ih (pre ++ [x]) n he2 (fun h => absurd h hc)
        refine ⟨r, Ev.step (fun k => by rw [chain_Free.l0]) ?_, fun h => absurd h hc, h2⟩
        rw [em, w1]
        exact ev_pos hlt (ev_pos (by omega) (ev_pos hlt (ev_neg cu (ev_bind hb (ev_neg (fun h => hc (hi.1 h)) hr)))))
theorem free_ev {l : List S51} (hl : l.length ≤ 100000) : ∃ r, Ev (fun k => chain_Free.f k l) r ∧ (Counted l → r = freeS l) ∧ (¬ Counted l → r = 0) := by
  obtain ⟨r, hr, h1, h2⟩ := free_l0 hl l [] 0 rfl (fun _ => ⟨Int.le_refl _, by simp⟩)
  exact ⟨r, hr, fun h => by rw [h1 h]; omega, h2⟩
/-- The greatest free block, or a number. -/
def mostS : Int → List S51 → Int
  | n, [] => n
  | n, b :: l => if b.f2 = true then mostS n l else mostS (mx n b.f1) l
theorem mostS_cons (n : Int) (b : S51) (l : List S51) : mostS n (b :: l) = if b.f2 = true then mostS n l else mostS (mx n b.f1) l := rfl
theorem most_l0 {l : List S51} (hl : l.length ≤ 100000) (suf : List S51) : ∀ (pre : List S51) (n : Int), l = pre ++ suf →
    ∃ r, Ev (fun k => chain_Most.l0 k l n l (l.length : Int) (pre.length : Int)) r ∧ (Counted l → r = mostS n suf) ∧ (¬ Counted l → r = n) := by
  induction suf with
  | nil =>
    intro pre n he
    exact ⟨n, Ev.step (fun k => by rw [chain_Most.l0]) (ev_neg (by rw [he]; simp) (Ev.now _)), fun _ => rfl, fun _ => rfl⟩
  | cons x suf ih =>
    intro pre n he
    have hlt : (pre.length : Int) < (l.length : Int) := by rw [he]; simp; omega
    have em : rd_T51 l (pre.length : Int) = x := by rw [he]; exact rdt_mid pre suf x
    have w1 : wrap64 ((pre.length : Int) + 1) = ((pre ++ [x]).length : Int) := by rw [w64 (by omega)]; simp
    have he2 : l = (pre ++ [x]) ++ suf := by rw [he]; simp
    by_cases cu : x.f2 = true
    · obtain ⟨r, hr, h1, h2⟩ := ih (pre ++ [x]) n he2
      refine ⟨r, Ev.step (fun k => by rw [chain_Most.l0]) ?_, fun h => ?_, h2⟩
      · rw [em, w1]
        exact ev_pos hlt (ev_pos (by omega) (ev_pos hlt (ev_pos cu hr)))
      · rw [h1 h, mostS_cons, if_pos cu]
    · obtain ⟨b, hb, hi⟩ := maybe_ev hl
      by_cases hc : Counted l
      · obtain ⟨r, hr, h1, h2⟩ := ih (pre ++ [x]) (mx n x.f1) he2
        refine ⟨r, Ev.step (fun k => by rw [chain_Most.l0]) ?_, fun h => ?_, fun h => absurd hc h⟩
        · rw [em, w1]
          exact ev_pos hlt (ev_pos (by omega) (ev_pos hlt (ev_neg cu (ev_bind hb (ev_pos (hi.2 hc) hr)))))
        · rw [h1 h, mostS_cons, if_neg cu]
      · obtain ⟨r, hr, h1, h2⟩ := ih (pre ++ [x]) n he2
        refine ⟨r, Ev.step (fun k => by rw [chain_Most.l0]) ?_, fun h => absurd h hc, h2⟩
        rw [em, w1]
        exact ev_pos hlt (ev_pos (by omega) (ev_pos hlt (ev_neg cu (ev_bind hb (ev_neg (fun h => hc (hi.1 h)) hr)))))
theorem most_ev {l : List S51} (hl : l.length ≤ 100000) : ∃ r, Ev (fun k => chain_Most.f k l) r ∧ (Counted l → r = mostS 0 l) ∧ (¬ Counted l → r = 0) :=
  most_l0 hl l [] 0 rfl
theorem counted_of {l : List S51} {words : Int} (h : MayB l words) : Counted l := by
  refine ⟨fun b hb => ?_, ?_⟩
  · have := chain_mem h.2 b hb; omega
  · have h1 := chain_len h.2
    have h2 := h.1.2.1
    omega
theorem maysize_eq (n : Int) : darningref4_MaySize.f n = some (decide (2 ≤ n ∧ n ≤ 512)) := by
  unfold darningref4_MaySize.f
  by_cases h2 : n ≥ 2
  · rw [if_pos h2]; congr 1; rw [Bool.eq_iff_iff]; simp only [decide_eq_true_iff]; omega
  · rw [if_neg h2, decide_eq_false (by omega)]
theorem rmayw_eq (n : Int) : darningref4_mayWords.f n = some (decide (8 ≤ n ∧ n ≤ 512 ∧ n % 8 = 0)) := by
  unfold darningref4_mayWords.f
  by_cases h1 : n ≥ 8
  · rw [if_pos h1]
    by_cases h2 : n ≤ 512
    · rw [if_pos h2, tmodp (by omega)]
      congr 1
      rw [Bool.eq_iff_iff, beq_iff_eq, decide_eq_true_iff]
      exact ⟨fun h => ⟨h1, h2, h⟩, fun h => h.2.2⟩
    · rw [if_neg h2, decide_eq_false (by omega)]
  · rw [if_neg h1, decide_eq_false (by omega)]
theorem mayb_l0 {words : Int} (hw : words ≤ 512) (suf : List S51) : ∀ (pre : List S51) (a : Int), 0 ≤ a → a ≤ words → (pre ++ suf).length ≤ 100000 →
    ∃ b, Ev (fun k => darningref4_MayBlocks.l0 k (pre ++ suf) words a (pre ++ suf) ((pre ++ suf).length : Int) (pre.length : Int)) b ∧ (b = true ↔ ChainP words a (frOf pre) suf) := by
  induction suf with
  | nil =>
    intro pre a h0 h1 hl
    refine ⟨a == words, Ev.step (fun k => by rw [darningref4_MayBlocks.l0]) (ev_neg (by simp) (Ev.now _)), ?_⟩
    rw [beq_iff_eq]; exact Iff.rfl
  | cons x suf ih =>
    intro pre a h0 h1 hl
    have e : pre ++ x :: suf = (pre ++ [x]) ++ suf := by simp
    have hlen2 : ((pre ++ [x]).length : Int) = (pre.length : Int) + 1 := by simp
    have hlt : (pre.length : Int) < ((pre ++ x :: suf).length : Int) := by simp; omega
    have w1 : wrap64 ((pre.length : Int) + 1) = (pre.length : Int) + 1 := w64 (by simp at hl; omega)
    have w2 : wrap64 (words - a) = words - a := w64 (by omega)
    by_cases c1 : x.f0 = a
    · by_cases c2 : 2 ≤ x.f1 ∧ x.f1 ≤ 512
      · by_cases c3 : x.f1 > words - a
        · refine ⟨false, Ev.step (fun k => by rw [darningref4_MayBlocks.l0]) ?_, ⟨fun h => (by cases h), fun h => by have := h.2.2.2.1; omega⟩⟩
          rw [rdt_mid, w2]
          exact ev_pos hlt (ev_pos (by omega) (ev_pos hlt (ev_pos c1 (ev_bindc (maysize_eq _) (ev_pos (by simp [c2]) (ev_pos c3 (Ev.now _)))))))
        · have w3 : wrap64 (a + x.f1) = a + x.f1 := w64 (by omega)
          obtain ⟨b, hb, hi⟩ := ih (pre ++ [x]) (a + x.f1) (by omega) (by omega) (by rw [← e]; exact hl)
          rw [hlen2, ← e] at hb
          rw [frOf_snoc] at hi
          by_cases c4 : frOf pre = true ∧ x.f2 = false
          · obtain ⟨m, y, hm, hy⟩ := frOf_pos c4.1
            refine ⟨false, Ev.step (fun k => by rw [darningref4_MayBlocks.l0]) ?_, ⟨fun h => (by cases h), fun h => by have := h.2.2.2.2.1 c4.1; rw [c4.2] at this; cases this⟩⟩
            rw [rdt_mid, w2, w1, w3]
            refine ev_pos hlt (ev_pos (by omega) (ev_pos hlt (ev_pos c1 (ev_bindc (maysize_eq _) (ev_pos (by simp [c2]) (ev_neg c3 ?_))))))
            have hp : 0 < (pre.length : Int) := by rw [hm, List.length_append, List.length_singleton]; omega
            refine ev_pos hp (ev_neg (by rw [c4.2]; decide) ?_)
            have w4 : wrap64 ((pre.length : Int) - 1) = (pre.length : Int) - 1 := w64 (by simp at hl; omega)
            rw [w4]
            refine ev_pos (by omega) (ev_pos (by omega) (ev_neg ?_ (Ev.now _)))
            have e2 : rd_T51 (pre ++ x :: suf) ((pre.length : Int) - 1) = y := by rw [hm]; exact rdt_last m (x :: suf) y
            rw [e2, hy]; decide
          · refine ⟨b, Ev.step (fun k => by rw [darningref4_MayBlocks.l0]) ?_, ?_⟩
            · rw [rdt_mid, w2, w1, w3]
              refine ev_pos hlt (ev_pos (by omega) (ev_pos hlt (ev_pos c1 (ev_bindc (maysize_eq _) (ev_pos (by simp [c2]) (ev_neg c3 ?_))))))
              refine ev_ite (fun hp => ev_ite (fun _ => hb) (fun hu => ?_)) (fun _ => hb)
              have w4 : wrap64 ((pre.length : Int) - 1) = (pre.length : Int) - 1 := w64 (by simp at hl; omega)
              rw [w4]
              refine ev_pos (by omega) (ev_pos (by omega) (ev_pos ?_ hb))
              rcases List.eq_nil_or_concat pre with hn | ⟨m, y, hm⟩
              · subst hn; simp at hp
              · rw [List.concat_eq_append] at hm
                have e2 : rd_T51 (pre ++ x :: suf) ((pre.length : Int) - 1) = y := by rw [hm]; exact rdt_last m (x :: suf) y
                rw [e2]
                have hfr : frOf pre = !y.f2 := by rw [hm, frOf_snoc]
                rw [hfr] at c4
                cases hy : y.f2 with
                | true => rfl
                | false =>
                  exact absurd ⟨by rw [hy]; rfl, by simpa using hu⟩ c4
            · rw [hi]
              constructor
              · intro h
                exact ⟨c1, c2.1, c2.2, by omega, fun hf => by
                  cases hx : x.f2 with
                  | true => rfl
                  | false => exact absurd ⟨hf, hx⟩ c4, h⟩
              · exact fun h => h.2.2.2.2.2
      · refine ⟨false, Ev.step (fun k => by rw [darningref4_MayBlocks.l0]) ?_, ⟨fun h => (by cases h), fun h => absurd ⟨h.2.1, h.2.2.1⟩ c2⟩⟩
        rw [rdt_mid]
        exact ev_pos hlt (ev_pos (by omega) (ev_pos hlt (ev_pos c1 (ev_bindc (maysize_eq _) (ev_neg (by simp; omega) (Ev.now _))))))
    · refine ⟨false, Ev.step (fun k => by rw [darningref4_MayBlocks.l0]) ?_, ⟨fun h => (by cases h), fun h => absurd h.1 c1⟩⟩
      rw [rdt_mid]
      exact ev_pos hlt (ev_pos (by omega) (ev_pos hlt (ev_neg c1 (Ev.now _))))
theorem mayb_ev {l : List S51} (words : Int) (hl : l.length ≤ 100000) : ∃ b, Ev (fun k => darningref4_MayBlocks.f k l words) b ∧ (b = true ↔ MayB l words) := by
  unfold darningref4_MayBlocks.f
  by_cases h : 8 ≤ words ∧ words ≤ 512 ∧ words % 8 = 0
  · obtain ⟨b, hb, hi⟩ := mayb_l0 h.2.1 l [] 0 (by omega) (by omega) hl
    refine ⟨b, ev_bindc (rmayw_eq words) (ev_pos (by simp [h]) hb), hi.trans ⟨fun hh => ⟨h, hh⟩, fun hh => hh.2⟩⟩
  · exact ⟨false, ev_bindc (rmayw_eq words) (ev_neg (by simpa using h) (Ev.now _)), ⟨fun hh => (by cases hh), fun hh => absurd hh.1 h⟩⟩
theorem mayb_yes {l : List S51} {words : Int} (hl : l.length ≤ 100000) (h : MayB l words) : Ev (fun k => darningref4_MayBlocks.f k l words) true := by
  obtain ⟨b, hb, hi⟩ := mayb_ev words hl
  rwa [hi.2 h] at hb
theorem mayb_no {l : List S51} {words : Int} (hl : l.length ≤ 100000) (h : ¬ MayB l words) : Ev (fun k => darningref4_MayBlocks.f k l words) false := by
  obtain ⟨b, hb, hi⟩ := mayb_ev words hl
  cases b with
  | true => exact absurd (hi.1 rfl) h
  | false => exact hb
theorem same_l0 {l m : List S51} (hl : l.length = m.length) (hlen : l.length ≤ 100000) (suf : List S51) : ∀ (pre suf2 : List S51), l = pre ++ suf → m = pre ++ suf2 →
    ∃ b, Ev (fun k => darningref4_SameBlocks.l0 k l m (l.length : Int) (pre.length : Int)) b ∧ (b = true ↔ suf = suf2) := by
  induction suf with
  | nil =>
    intro pre suf2 h1 h2
    have : suf2 = [] := by
      rw [h1, h2] at hl
      cases suf2 with
      | nil => rfl
      | cons x s => simp at hl
    subst this
    exact ⟨true, Ev.step (fun k => by rw [darningref4_SameBlocks.l0]) (ev_neg (by rw [h1]; simp) (Ev.now _)), by simp⟩
  | cons x suf ih =>
    intro pre suf2 h1 h2
    cases suf2 with
    | nil => rw [h1, h2] at hl; simp at hl
    | cons y suf2 =>
      have hlt : (pre.length : Int) < (l.length : Int) := by rw [h1]; simp; omega
      have em : rd_T51 l (pre.length : Int) = x := by rw [h1]; exact rdt_mid pre suf x
      have em2 : rd_T51 m (pre.length : Int) = y := by rw [h2]; exact rdt_mid pre suf2 y
      have w1 : wrap64 ((pre.length : Int) + 1) = ((pre ++ [x]).length : Int) := by rw [w64 (by omega)]; simp
      by_cases c : x = y
      · subst c
        obtain ⟨b, hb, hi⟩ := ih (pre ++ [x]) suf2 (by rw [h1]; simp) (by rw [h2]; simp)
        refine ⟨b, Ev.step (fun k => by rw [darningref4_SameBlocks.l0]) ?_, hi.trans (by simp)⟩
        rw [em, em2, w1]
        exact ev_pos hlt (ev_pos (by omega) (ev_pos hlt (ev_pos (by omega) (ev_neg (by simp) hb))))
      · refine ⟨false, Ev.step (fun k => by rw [darningref4_SameBlocks.l0]) ?_, ⟨fun h => (by cases h), fun h => absurd (List.cons.inj h).1 c⟩⟩
        rw [em, em2]
        refine ev_pos hlt (ev_pos (by omega) (ev_pos hlt (ev_pos (by omega) (ev_pos ?_ (Ev.now _)))))
        by_cases c0 : x.f0 = y.f0
        · by_cases c1 : x.f1 = y.f1
          · by_cases c2 : x.f2 = y.f2
            · exact absurd (blk_ext c0 c1 c2) c
            · simp [c2]
          · simp [c1]
        · simp [c0]
theorem sameb_ev {l m : List S51} (hlen : l.length ≤ 100000) : ∃ b, Ev (fun k => darningref4_SameBlocks.f k l m) b ∧ (b = true ↔ l = m) := by
  unfold darningref4_SameBlocks.f
  by_cases h : l.length = m.length
  · obtain ⟨b, hb, hi⟩ := same_l0 h hlen l [] m rfl rfl
    exact ⟨b, ev_pos (by omega) hb, hi⟩
  · exact ⟨false, ev_neg (by omega) (Ev.now _), ⟨fun h => (by cases h), fun e => absurd (by rw [e]) h⟩⟩
theorem sameb_yes {l : List S51} (hlen : l.length ≤ 100000) : Ev (fun k => darningref4_SameBlocks.f k l l) true := by
  obtain ⟨b, hb, hi⟩ := sameb_ev (l := l) (m := l) hlen
  rwa [hi.2 rfl] at hb
theorem rword_eq (n : Int) (u : Bool) : darningref4_Word.f n u = block_Word.f n u := rfl
theorem rd_set {t : List Int} {i : Nat} (v j : Int) (hi : i < t.length) : rd (t.set i v) j = if j.toNat = i then v else rd t j := by
  unfold rd
  rw [List.getD_eq_getElem?_getD, List.getElem?_set, List.getD_eq_getElem?_getD]
  by_cases h : i = j.toNat
  · rw [if_pos h, if_pos (by omega), if_pos h.symm]; rfl
  · rw [if_neg h, if_neg (fun e => h e.symm)]
theorem rd_rep (n : Nat) (j : Int) : rd (List.replicate n 0) j = 0 := by
  unfold rd
  rw [List.getD_eq_getElem?_getD, List.getElem?_replicate]
  by_cases h : j.toNat < n
  · rw [if_pos h]; rfl
  · rw [if_neg h]; rfl
/-- Words in which the headers of blocks stand, and beside them what stood there. -/
def Heads (w v : List Int) (l : List S51) : Prop :=
  v.length = w.length ∧ (∀ b ∈ l, rd v b.f0 = headOf b) ∧ ∀ j : Int, 0 ≤ j → (∀ b ∈ l, j ≠ b.f0) → rd v j = rd w j
theorem words_l0 {words : Int} (_hwd : words ≤ 512) (l : List S51) (hl : l.length ≤ 100000) (suf : List S51) : ∀ (pre : List S51) (a : Int) (fr : Bool) (w : List Int), l = pre ++ suf → 0 ≤ a → ChainP words a fr suf → (w.length : Int) = words →
    ∃ v, Ev (fun k => darninglaw14_Words.l0 k w l (l.length : Int) (pre.length : Int)) v ∧ Heads w v suf := by
  induction suf with
  | nil =>
    intro pre a fr w he h0 hC hw
    exact ⟨w, Ev.step (fun k => by rw [darninglaw14_Words.l0]) (ev_neg (by rw [he]; simp) (Ev.now _)), rfl, fun b hb => absurd hb (by simp), fun j _ _ => rfl⟩
  | cons x suf ih =>
    intro pre a fr w he h0 hC hw
    have hlt : (pre.length : Int) < (l.length : Int) := by rw [he]; simp; omega
    have em : rd_T51 l (pre.length : Int) = x := by rw [he]; exact rdt_mid pre suf x
    have w1 : wrap64 ((pre.length : Int) + 1) = ((pre ++ [x]).length : Int) := by rw [w64 (by omega)]; simp
    have he2 : l = (pre ++ [x]) ++ suf := by rw [he]; simp
    obtain ⟨c0, c1, c2, c3, c4, c5⟩ := hC
    obtain ⟨v, hv, v1, v2, v3⟩ := ih (pre ++ [x]) (a + x.f1) (!x.f2) (w.set x.f0.toNat (headOf x)) he2 (by omega) c5 (by rw [List.length_set]; exact hw)
    have hup : ∀ b ∈ suf, x.f0 < b.f0 := fun b hb => by have := chain_mem c5 b hb; omega
    refine ⟨v, Ev.step (fun k => by rw [darninglaw14_Words.l0]) ?_, by rw [v1, List.length_set], fun b hb => ?_, fun j j0 hj => ?_⟩
    · rw [em, w1, rword_eq, word_eq, if_pos ⟨c1, c2⟩]
      exact ev_pos hlt (ev_pos (by omega) (ev_pos hlt (ev_pos (by omega) (ev_pos (by omega) (ev_bindc rfl (ev_pos (by omega) hv))))))
    · rcases List.mem_cons.1 hb with hb | hb
      · rw [hb, v3 x.f0 (by omega) (fun c hc => by have := hup c hc; omega), rd_set _ _ (by omega), if_pos rfl]
      · exact v2 b hb
    · rw [v3 j j0 (fun b hb => hj b (by simp [hb])), rd_set _ _ (by omega), if_neg (by have := hj x (by simp); omega)]
theorem words_ev {l : List S51} {words : Int} (hl : l.length ≤ 100000) (h : MayB l words) : ∃ v, Ev (fun k => darninglaw14_Words.f k l words) v ∧ Heads (List.replicate words.toNat 0) v l := by
  have hw := h.1
  unfold MayW at hw
  have e : mx 0 (mn words 512) = words := by unfold mx mn; (repeat' split) <;> omega
  unfold darninglaw14_Words.f
  rw [e]
  obtain ⟨v, h1, h2⟩ := words_l0 hw.2.1 l hl l [] 0 false (List.replicate words.toNat 0) rfl (Int.le_refl _) h.2 (by simp; omega)
  exact ⟨v, ev_pos (by omega) (ev_pos (by omega) h1), h2⟩
theorem heads_wds {l : List S51} {words : Int} {v : List Int} (h : MayB l words) (hv : Heads (List.replicate words.toNat 0) v l) : Wds v ∧ (v.length : Int) = words := by
  have hw := h.1
  unfold MayW at hw
  have hlen : (v.length : Int) = words := by rw [hv.1, List.length_replicate]; omega
  refine ⟨⟨by omega, fun j => ?_⟩, hlen⟩
  by_cases hj : 0 ≤ j
  · by_cases hb : ∃ b ∈ l, j = b.f0
    · obtain ⟨b, hb, rfl⟩ := hb
      have := chain_mem h.2 b hb
      rw [hv.2.1 b hb]
      unfold headOf
      cases b.f2
      · rw [if_neg (by decide)]; omega
      · rw [if_pos rfl]; omega
    · rw [hv.2.2 j hj (fun b hb2 e => hb ⟨b, hb2, e⟩), rd_rep]; omega
  · have e : rd v j = rd v 0 := by unfold rd; rw [show j.toNat = (0 : Int).toNat from by omega]
    rw [e]
    by_cases hb : ∃ b ∈ l, (0 : Int) = b.f0
    · obtain ⟨b, hb, hb0⟩ := hb
      have := chain_mem h.2 b hb
      rw [hb0, hv.2.1 b hb]
      unfold headOf
      cases b.f2
      · rw [if_neg (by decide)]; omega
      · rw [if_pos rfl]; omega
    · rw [hv.2.2 0 (by omega) (fun b hb2 e => hb ⟨b, hb2, e⟩), rd_rep]; omega
/-- The blocks of words in which the headers of blocks stand. -/
theorem heads_blocks {l : List S51} {words : Int} {v : List Int} (h : MayB l words) (hv : Heads (List.replicate words.toNat 0) v l) : Ev (fun k => chain_Blocks.f k v) (l, true) := by
  obtain ⟨hW, hlen⟩ := heads_wds h hv
  exact blocks_yes hW (parse_of (fr := false) (by rw [hlen]; exact h.2) hv.2.1) (by rw [hlen]; exact h)
theorem at_l0 {l : List S51} {words word : Int} (hC : MayB l words) (hw : -1 ≤ word ∧ word ≤ 1000) (d : Nat) : ∀ i : Int, 0 ≤ i → i + d = l.length → (∀ j : Int, 0 ≤ j → j < i → ¬ ((rd_T51 l j).f0 ≤ word ∧ word < (rd_T51 l j).f0 + (rd_T51 l j).f1)) →
    ∃ r, Ev (fun k => chain_At.l0 k word l (l.length : Int) i) r ∧ ((0 ≤ r ∧ r < l.length ∧ (rd_T51 l r).f0 ≤ word ∧ word < (rd_T51 l r).f0 + (rd_T51 l r).f1) ∨
      (r = -1 ∧ ∀ j : Int, 0 ≤ j → j < l.length → ¬ ((rd_T51 l j).f0 ≤ word ∧ word < (rd_T51 l j).f0 + (rd_T51 l j).f1))) := by
  have hlen := chain_len hC.2
  have hwd := hC.1.2.1
  induction d with
  | zero =>
    intro i h0 h1 hn
    exact ⟨-1, Ev.step (fun k => by rw [chain_At.l0]) (ev_neg (by omega) (Ev.now _)), Or.inr ⟨rfl, fun j a b => hn j a (by omega)⟩⟩
  | succ d ih =>
    intro i h0 h1 hn
    have hr := chain_rd hC.2 h0 (by omega : i < (l.length : Int))
    by_cases c : (rd_T51 l i).f0 ≤ word ∧ word < (rd_T51 l i).f0 + (rd_T51 l i).f1
    · refine ⟨i, Ev.step (fun k => by rw [chain_At.l0]) ?_, Or.inl ⟨h0, by omega, c.1, c.2⟩⟩
      rw [u64w, u64w, u64w, u64w]
      exact ev_pos (by omega) (ev_pos h0 (ev_pos (by omega) (ev_pos (by omega) (ev_pos (by omega) (ev_pos (by omega) (Ev.now _))))))
    · obtain ⟨r, hr1, hr2⟩ := ih (i + 1) (by omega) (by omega) (fun j a b => by
        by_cases e : j = i
        · rw [e]; exact c
        · exact hn j a (by omega))
      refine ⟨r, Ev.step (fun k => by rw [chain_At.l0]) ?_, hr2⟩
      rw [u64w, u64w, u64w, u64w, w64 (n := i + 1) (by omega)]
      refine ev_pos (by omega) (ev_pos h0 (ev_pos (by omega) ?_))
      exact ev_ite (fun c0 => ev_ite (fun c1 => ev_neg (by omega) hr1) (fun _ => hr1)) (fun _ => hr1)
theorem at_ev {l : List S51} {words word : Int} (hC : MayB l words) (hw : -1 ≤ word ∧ word ≤ 1000) :
    ∃ r, Ev (fun k => chain_At.f k l word) r ∧ ((0 ≤ r ∧ r < l.length ∧ (rd_T51 l r).f0 ≤ word ∧ word < (rd_T51 l r).f0 + (rd_T51 l r).f1) ∨
      (r = -1 ∧ ∀ j : Int, 0 ≤ j → j < l.length → ¬ ((rd_T51 l j).f0 ≤ word ∧ word < (rd_T51 l j).f0 + (rd_T51 l j).f1))) :=
  at_l0 hC hw l.length 0 (by omega) (by omega) (fun j _ _ => by omega)
/-- Each word is in a block. -/
theorem cover {words : Int} {l : List S51} : ∀ {a : Int} {fr : Bool} {x : Int}, ChainP words a fr l → a ≤ x → x < words → ∃ b ∈ l, b.f0 ≤ x ∧ x < b.f0 + b.f1 := by
  induction l with
  | nil => intro a fr x h h0 h1; have h : a = words := h; omega
  | cons b l ih =>
    intro a fr x h h0 h1
    obtain ⟨c0, c1, c2, c3, c4, c5⟩ := h
    by_cases hx : x < a + b.f1
    · exact ⟨b, by simp, by omega, by omega⟩
    · obtain ⟨b', h2, h3⟩ := ih c5 (by omega : a + b.f1 ≤ x) h1
      exact ⟨b', by simp [h2], h3⟩
theorem rdt_of_mem {l : List S51} {b : S51} (h : b ∈ l) : ∃ j : Int, 0 ≤ j ∧ j < l.length ∧ rd_T51 l j = b := by
  obtain ⟨i, hi, he⟩ := List.getElem_of_mem h
  refine ⟨i, by omega, by omega, ?_⟩
  obtain ⟨_, e⟩ := rdt_get (l := l) (j := (i : Int)) (by omega) (by omega)
  rw [e, ← he]; rfl
theorem awake_ev : Ev (fun k => darninglaw14_awake.f k) true := Ev.of (fun k => darninglaw14_awake.mono k) (k := 30) (by decide +kernel)
/-- How many words are used. -/
def usedS : List S51 → Int
  | [] => 0
  | b :: l => (if b.f2 = true then b.f1 else 0) + usedS l
theorem usedS_cons (b : S51) (l : List S51) : usedS (b :: l) = (if b.f2 = true then b.f1 else 0) + usedS l := rfl
theorem chain_sum {words : Int} {l : List S51} : ∀ {a : Int} {fr : Bool}, ChainP words a fr l → freeS l + usedS l = words - a := by
  induction l with
  | nil => intro a fr h; have h : a = words := h; show (0 : Int) + 0 = words - a; omega
  | cons b l ih =>
    intro a fr h
    obtain ⟨c0, c1, c2, c3, c4, c5⟩ := h
    have := ih c5
    rw [freeS_cons, usedS_cons]
    by_cases c : b.f2 = true
    · rw [if_pos c, if_pos c]; omega
    · rw [if_neg c, if_neg c]; omega
theorem used_r {words : Int} {l : List S51} : ∀ {a : Int} {fr : Bool}, ChainP words a fr l → 0 ≤ usedS l ∧ usedS l ≤ words - a := by
  induction l with
  | nil => intro a fr h; have h : a = words := h; show (0 : Int) ≤ 0 ∧ (0 : Int) ≤ words - a; omega
  | cons b l ih =>
    intro a fr h
    obtain ⟨c0, c1, c2, c3, c4, c5⟩ := h
    have := ih c5
    rw [usedS_cons]
    by_cases c : b.f2 = true
    · rw [if_pos c]; omega
    · rw [if_neg c]; omega
theorem each_l0 {l : List S51} {words : Int} (hC : MayB l words) (suf : List S51) : ∀ (pre : List S51) (a : Int) (fr : Bool) (u : Int), l = pre ++ suf → 0 ≤ a → ChainP words a fr suf → 0 ≤ u → u ≤ a → u + usedS suf = usedS l →
    Ev (fun k => darninglaw14_ChainEach.l0 k l words u l (l.length : Int) (pre.length : Int)) true := by
  have hlen := chain_len hC.2
  have hwd := hC.1.2.1
  induction suf with
  | nil =>
    intro pre a fr u he h0 hc hu hu2 hs
    obtain ⟨f, hf, hf1, _⟩ := free_ev (l := l) (by omega)
    have hsum := chain_sum hC.2
    have hu3 : u = usedS l := by have : usedS ([] : List S51) = 0 := rfl; omega
    have hur := used_r hC.2
    refine Ev.step (fun k => by rw [darninglaw14_ChainEach.l0]) ?_
    refine ev_neg (by rw [he]; simp) (ev_bind hf ?_)
    rw [hf1 (counted_of hC), w64 (by omega)]
    refine ev_pos (by omega) ?_
    obtain ⟨r1, q1, q2⟩ := at_ev (word := -1) hC (by omega)
    obtain ⟨r2, q3, q4⟩ := at_ev (word := words) hC (by have := hC.1.1; omega)
    have e1 : r1 = -1 := by
      rcases q2 with ⟨a0, a1, a2, a3⟩ | ⟨a0, _⟩
      · have := chain_rd hC.2 a0 a1; omega
      · exact a0
    have e2 : r2 = -1 := by
      rcases q4 with ⟨a0, a1, a2, a3⟩ | ⟨a0, _⟩
      · have := chain_rd hC.2 a0 a1; omega
      · exact a0
    exact ev_bind q1 (ev_pos e1 (ev_bind q3 (ev_pos e2 (ev_bind awake_ev (Ev.now _)))))
  | cons x suf ih =>
    intro pre a fr u he h0 hc hu hu2 hs
    have hlt : (pre.length : Int) < (l.length : Int) := by rw [he]; simp; omega
    have em : rd_T51 l (pre.length : Int) = x := by rw [he]; exact rdt_mid pre suf x
    have w1 : wrap64 ((pre.length : Int) + 1) = ((pre ++ [x]).length : Int) := by rw [w64 (by omega)]; simp
    have he2 : l = (pre ++ [x]) ++ suf := by rw [he]; simp
    obtain ⟨c0, c1, c2, c3, c4, c5⟩ := hc
    rw [usedS_cons] at hs
    refine Ev.step (fun k => by rw [darninglaw14_ChainEach.l0]) ?_
    rw [em, w1]
    refine ev_pos hlt (ev_pos (by omega) (ev_pos hlt ?_))
    refine ev_ite (fun cu => ?_) (fun cu => ?_)
    · rw [if_pos cu] at hs
      rw [w64 (n := u + x.f1) (by omega)]
      exact ih (pre ++ [x]) (a + x.f1) (!x.f2) (u + x.f1) he2 (by omega) c5 (by omega) (by omega) (by omega)
    · rw [if_neg cu] at hs
      exact ih (pre ++ [x]) (a + x.f1) (!x.f2) u he2 (by omega) c5 (by omega) (by omega) (by omega)
theorem ChainEach : darninglaw14_ChainEach.Pure := by
  intro l words a hm hy hw h1 h2
  apply Ev.rounds
  unfold darninglaw14_ChainEach.f
  refine ev_ite (fun _ => ev_bind awake_ev (Ev.now _)) (fun hc => ?_)
  by_cases hC : MayB l words
  case neg =>
    exact ev_bind (mayb_no (by omega) hC) (ev_neg (by decide) (ev_bind (cmay_no (by omega) hC) (ev_neg (by decide) (ev_bind awake_ev (Ev.now _)))))
  refine ev_bind (mayb_yes (by omega) hC) (ev_pos rfl (ev_bind (cmay_yes (by omega) hC) (ev_pos rfl ?_)))
  obtain ⟨v, hv1, hv2⟩ := words_ev (l := l) (by omega) hC
  refine ev_bind hv1 (ev_bind (heads_blocks hC hv2) ?_)
  have hwd := hC.1
  unfold MayW at hwd
  rw [u64w words, show words % 18446744073709551616 = words from by omega, modw a words (by omega) (by omega)]
  have x0 := Int.emod_nonneg (a % 18446744073709551616) (b := words) (by omega)
  have x1 := Int.emod_lt_of_pos (a % 18446744073709551616) (b := words) (by omega)
  generalize a % 18446744073709551616 % words = x at x0 x1 ⊢
  refine ev_neg (by omega) ?_
  obtain ⟨r, q1, q2⟩ := at_ev (word := x) hC (by omega)
  refine ev_bind q1 (ev_pos rfl (ev_bind (sameb_yes (l := l) (by omega)) (ev_pos rfl ?_)))
  rcases q2 with ⟨a0, a1, a2, a3⟩ | ⟨_, hn⟩
  · have hr := chain_rd hC.2 a0 a1
    refine ev_neg (by omega) (ev_neg (by omega) (ev_pos a0 (ev_pos a1 (ev_neg (by omega) ?_))))
    rw [w64 (n := (rd_T51 l r).f0 + (rd_T51 l r).f1) (by omega), decide_eq_false (by omega)]
    refine Ev.step (fun k => by rw [darninglaw14_ChainEach.j0]) ?_
    refine ev_neg (by decide) ?_
    exact each_l0 hC l [] 0 false 0 rfl (Int.le_refl _) hC.2 (Int.le_refl _) (Int.le_refl _) (by omega)
  · obtain ⟨b, hb, hb2⟩ := cover hC.2 x0 x1
    obtain ⟨j, j0, j1, j2⟩ := rdt_of_mem hb
    exact absurd (by rw [j2]; exact hb2) (hn j j0 j1)

end Go.Proofs.Ytfgggmojdefidaa.Pure
