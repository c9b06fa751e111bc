/- MergeBack: what is taken and given back leaves the blocks as they were; edited so, the words are those blocks; as many words are free as were, and the block's. -/
import Derived.Test.YtglekonhdjploaaXMergeBackx
namespace Go.Proofs.Ytglekonhdjploaa.Pure
open Go.RowKit Go.Proofs.Ytglekonhdjploaa.XMergeBack Go.Proofs.YtglekonhdjploaaW.PrintWords Go.Proofs.YtglekonhdjploaaW.PrintLast

theorem wf64 {a : Int} (h : (Lit.int .i64 a).wf = true) : -9223372036854775808 ≤ a ∧ a ≤ 9223372036854775807 := by
  simp [Lit.wf, IntKind.min, IntKind.max, IntKind.bits, IntKind.signed] at h
  omega
theorem wfu64 {a : Int} (h : (Lit.int .u64 a).wf = true) : 0 ≤ a ∧ a ≤ 18446744073709551615 := by
  simp [Lit.wf, IntKind.min, IntKind.max, IntKind.bits, IntKind.signed] at h
  omega
theorem u64w (n : Int) : IntKind.u64.wrap n = n % 18446744073709551616 := by simp [IntKind.wrap, IntKind.bits, IntKind.signed]
theorem w64 {n : Int} (h : -9223372036854775808 ≤ n ∧ n ≤ 9223372036854775807) : wrap64 n = n := by unfold wrap64; omega
theorem tmodp {a b : Int} (h : 0 ≤ a) : Int.tmod a b = a % b := Int.tmod_eq_emod_of_nonneg h
theorem tdivp {a b : Int} (h : 0 ≤ a) : Int.tdiv a b = a / b := Int.tdiv_eq_ediv_of_nonneg h
theorem u64_wraps (n : Int) (h₀ : 0 ≤ n) (h₁ : n < 2 ^ 64) : IntKind.u64.wrap n = n := by rw [u64w]; omega
theorem u64_mask (i : Nat) (hi : i ≤ 64) (x : Int) (h₀ : 0 ≤ x) (h₁ : x < 2 ^ 64) : Go.bits .and .u64 x (2 ^ i - 1) = x % 2 ^ i :=
  bits_mask .u64 64 (by decide) u64_wraps i hi x h₀ h₁
theorem u64_and1 {x : Int} (h₀ : 0 ≤ x) (h₁ : x ≤ 18446744073709551615) : Go.bits .and .u64 x 1 = x % 2 := u64_mask 1 (by decide) x h₀ (by omega)
theorem u64_and3 {x : Int} (h₀ : 0 ≤ x) (h₁ : x ≤ 18446744073709551615) : Go.bits .and .u64 x 3 = x % 4 := u64_mask 2 (by decide) x h₀ (by omega)
theorem u64_or1 {x : Int} (h₀ : 0 ≤ x) (h₁ : x ≤ 18446744073709551615) (h : x % 2 = 0) : Go.bits .or .u64 x 1 = x + 1 :=
  bits_join .u64 64 (by decide) u64_wraps 1 x 1 h₀ h (by omega) (by decide) (by decide) (by decide)
theorem modw (a m : Int) (h : 0 < m) (hm : m ≤ 1000000) : wrap64 (Int.tmod (IntKind.u64.wrap a) m) = (a % 18446744073709551616) % m := by
  rw [u64w, tmodp (by omega), w64]
  have := Int.emod_nonneg (a % 18446744073709551616) (b := m) (by omega)
  have := Int.emod_lt_of_pos (a % 18446744073709551616) h
  omega
theorem ev_pos {α : Type} {c : Prop} [Decidable c] {a b : Nat → Option α} {r : α} (h : c) (k : Ev a r) : Ev (fun n => if c then a n else b n) r := by
  simp only [if_pos h]; exact k
theorem ev_neg {α : Type} {c : Prop} [Decidable c] {a b : Nat → Option α} {r : α} (h : ¬ c) (k : Ev b r) : Ev (fun n => if c then a n else b n) r := by
  simp only [if_neg h]; exact k
theorem ev_ite {α : Type} {c : Prop} [Decidable c] {a b : Nat → Option α} {r : α} (h1 : c → Ev a r) (h2 : ¬ c → Ev b r) : Ev (fun n => if c then a n else b n) r := by
  by_cases h : c
  · exact ev_pos h (h1 h)
  · exact ev_neg h (h2 h)
theorem ev_bindc {α β : Type} {o : Option α} {f : Nat → α → Option β} {a : α} {r : β} (h : o = some a) (k : Ev (fun n => f n a) r) : Ev (fun n => o.bind (f n)) r := by
  subst h; exact k
theorem ev_bind {α β : Type} {g : Nat → Option α} {f : Nat → α → Option β} {a : α} {r : β} (h : Ev g a) (k : Ev (fun n => f n a) r) : Ev (fun n => (g n).bind (f n)) r := Ev.bind h k
theorem ev_now {α : Type} {r s : α} (h : s = r) : Ev (fun _ => some s) r := by subst h; exact Ev.now _
theorem ev_some {α : Type} {o : Option α} {r : α} (h : o = some r) : Ev (fun _ => o) r := ⟨0, fun _ _ => h⟩
theorem ev_one {α : Type} {g : Nat → Option α} {r : α} (h : ∀ k, g (k + 1) = some r) : Ev g r := ⟨1, fun k hk => by obtain ⟨m, rfl⟩ : ∃ m, k = m + 1 := ⟨k - 1, by omega⟩; exact h m⟩
theorem ev_two {α : Type} {g : Nat → Option α} {r : α} (h : ∀ k, g (k + 2) = some r) : Ev g r := ⟨2, fun k hk => by obtain ⟨m, rfl⟩ : ∃ m, k = m + 2 := ⟨k - 2, by omega⟩; exact h m⟩
theorem rdt_mid (pre suf : List S35) (x : S35) : rd_T35 (pre ++ x :: suf) (pre.length : Int) = x := by
  unfold rd_T35
  rw [List.getD_eq_getElem?_getD, Int.toNat_natCast, List.getElem?_append_right (by omega)]
  simp
theorem rdt_last (pre suf : List S35) (x : S35) : rd_T35 ((pre ++ [x]) ++ suf) (((pre ++ [x]).length : Int) - 1) = x := by
  have e : (((pre ++ [x]).length : Int) - 1) = (pre.length : Int) := by simp
  rw [e, List.append_assoc]
  exact rdt_mid pre suf x
theorem rdt_get {l : List S35} {j : Int} (h0 : 0 ≤ j) (h1 : j < l.length) : ∃ h : j.toNat < l.length, rd_T35 l j = l[j.toNat]'h := by
  refine ⟨by omega, ?_⟩
  unfold rd_T35
  rw [List.getD_eq_getElem?_getD, List.getElem?_eq_getElem (by omega)]
  rfl
theorem rdt_mem {l : List S35} {j : Int} (h0 : 0 ≤ j) (h1 : j < l.length) : rd_T35 l j ∈ l := by
  obtain ⟨h, e⟩ := rdt_get h0 h1
  rw [e]
  exact List.getElem_mem h
/-- Blocks side by side, from a word on; fr: is the block ahead of them free? -/
def ChainP (words : Int) : Int → Bool → List S35 → Prop
  | a, _, [] => a = words
  | a, fr, b :: l => b.f0 = a ∧ 2 ≤ b.f1 ∧ b.f1 ≤ 512 ∧ b.f1 ≤ words - a ∧ (fr = true → b.f2 = true) ∧ ChainP words (a + b.f1) (!b.f2) l
def MayW (words : Int) : Prop := 8 ≤ words ∧ words ≤ 512 ∧ words % 8 = 0
instance (words : Int) : Decidable (MayW words) := by unfold MayW; infer_instance
def MayB (l : List S35) (words : Int) : Prop := MayW words ∧ ChainP words 0 false l
theorem chain_mem {words : Int} {l : List S35} : ∀ {a : Int} {fr : Bool}, ChainP words a fr l → ∀ b ∈ l, a ≤ b.f0 ∧ 2 ≤ b.f1 ∧ b.f1 ≤ 512 ∧ b.f0 + b.f1 ≤ words := by
  induction l with
  | nil => exact fun _ b hb => absurd hb (by simp)
  | cons c l ih =>
    intro a fr h b hb
    obtain ⟨h0, h1, h2, h3, h4, h5⟩ := h
    rcases List.mem_cons.1 hb with hb | hb
    · subst hb; omega
    · have := ih h5 b hb; omega
theorem chain_up {words : Int} {l : List S35} : ∀ {a : Int} {fr : Bool}, ChainP words a fr l → l.Pairwise (fun b c => b.f0 + b.f1 ≤ c.f0) := by
  induction l with
  | nil => exact fun _ => List.Pairwise.nil
  | cons c l ih =>
    intro a fr h
    obtain ⟨h0, h1, h2, h3, h4, h5⟩ := h
    refine List.pairwise_cons.2 ⟨fun b hb => ?_, ih h5⟩
    have := chain_mem h5 b hb
    omega
theorem chain_le {words : Int} {l : List S35} : ∀ {a : Int} {fr : Bool}, ChainP words a fr l → a ≤ words := by
  induction l with
  | nil => exact fun h => Int.le_of_eq h
  | cons c l ih =>
    intro a fr h
    obtain ⟨h0, h1, h2, h3, h4, h5⟩ := h
    omega
theorem chain_len {words : Int} {l : List S35} : ∀ {a : Int} {fr : Bool}, ChainP words a fr l → a + 2 * l.length ≤ words := by
  induction l with
  | nil => intro a fr h; have : a = words := h; simp; omega
  | cons c l ih =>
    intro a fr h
    obtain ⟨h0, h1, h2, h3, h4, h5⟩ := h
    have := ih h5
    simp; omega
theorem chain_rd {words : Int} {l : List S35} (h : ChainP words 0 false l) {j : Int} (h0 : 0 ≤ j) (h1 : j < l.length) :
    0 ≤ (rd_T35 l j).f0 ∧ 2 ≤ (rd_T35 l j).f1 ∧ (rd_T35 l j).f1 ≤ 512 ∧ (rd_T35 l j).f0 + (rd_T35 l j).f1 ≤ words := chain_mem h _ (rdt_mem h0 h1)
theorem chain_lt {words : Int} {l : List S35} (h : ChainP words 0 false l) {i j : Int} (h0 : 0 ≤ i) (h1 : i < j) (h2 : j < l.length) : (rd_T35 l i).f0 + (rd_T35 l i).f1 ≤ (rd_T35 l j).f0 := by
  obtain ⟨hi, ei⟩ := rdt_get (l := l) h0 (by omega)
  obtain ⟨hj, ej⟩ := rdt_get (l := l) (j := j) (by omega) h2
  rw [ei, ej]
  exact List.pairwise_iff_getElem.1 (chain_up h) _ _ hi hj (by omega)
/-- Is the last one of some blocks free? -/
def frOf (l : List S35) : Bool := match l.getLast? with | some b => !b.f2 | none => false
theorem frOf_snoc (l : List S35) (b : S35) : frOf (l ++ [b]) = !b.f2 := by simp [frOf]
theorem frOf_pos {l : List S35} (h : frOf l = true) : ∃ m b, l = m ++ [b] ∧ b.f2 = false := by
  rcases List.eq_nil_or_concat l with rfl | ⟨m, b, rfl⟩
  · simp [frOf] at h
  · refine ⟨m, b, by simp, ?_⟩
    simpa [frOf] using h
theorem cmayw_eq (n : Int) : chain_mayWords.f n = some (decide (8 ≤ n ∧ n ≤ 512 ∧ n % 8 = 0)) := by
  unfold chain_mayWords.f
  by_cases h1 : n ≥ 8
  · rw [if_pos h1]
    by_cases h2 : n ≤ 512
    · rw [if_pos h2, tmodp (by omega)]
      congr 1
      rw [Bool.eq_iff_iff, beq_iff_eq, decide_eq_true_iff]
      exact ⟨fun h => ⟨h1, h2, h⟩, fun h => h.2.2⟩
    · rw [if_neg h2, decide_eq_false (by omega)]
  · rw [if_neg h1, decide_eq_false (by omega)]
theorem bmay_eq (n : Int) : block_May.f n = some (decide (2 ≤ n ∧ n ≤ 512)) := by
  unfold block_May.f
  by_cases h2 : n ≥ 2
  · rw [if_pos h2]; congr 1; rw [Bool.eq_iff_iff]; simp only [decide_eq_true_iff]; omega
  · rw [if_neg h2, decide_eq_false (by omega)]
theorem cmay_l0 {words : Int} (hw : words ≤ 100000) (suf : List S35) : ∀ (pre : List S35) (a : Int) (fr : Bool), 0 ≤ a → a ≤ words → (pre ++ suf).length ≤ 100000 →
    ∃ b, Ev (fun k => chain_May.l0 k words a fr (pre ++ suf) ((pre ++ suf).length : Int) (pre.length : Int)) b ∧ (b = true ↔ ChainP words a fr suf) := by
  induction suf with
  | nil =>
    intro pre a fr h0 h1 hl
    refine ⟨a == words, Ev.step (fun k => by rw [chain_May.l0]) (ev_neg (by simp) (Ev.now _)), ?_⟩
    rw [beq_iff_eq]; exact Iff.rfl
  | cons x suf ih =>
    intro pre a fr h0 h1 hl
    have e : pre ++ x :: suf = (pre ++ [x]) ++ suf := by simp
    have hlen2 : ((pre ++ [x]).length : Int) = (pre.length : Int) + 1 := by simp
    have hlt : (pre.length : Int) < ((pre ++ x :: suf).length : Int) := by simp; omega
    have w1 : wrap64 ((pre.length : Int) + 1) = (pre.length : Int) + 1 := w64 (by simp at hl; omega)
    have w2 : wrap64 (words - a) = words - a := w64 (by omega)
    by_cases c1 : x.f0 = a
    · by_cases c2 : 2 ≤ x.f1 ∧ x.f1 ≤ 512
      · by_cases c4 : fr = true ∧ x.f2 = false
        · refine ⟨false, Ev.step (fun k => by rw [chain_May.l0]) ?_, ⟨fun h => (by cases h), fun h => by have := h.2.2.2.2.1 c4.1; rw [c4.2] at this; cases this⟩⟩
          rw [rdt_mid]
          exact ev_pos hlt (ev_pos (by omega) (ev_pos hlt (ev_pos c1 (ev_bindc (bmay_eq _) (ev_pos (by simp [c2]) (ev_pos c4.1 (ev_neg (by rw [c4.2]; decide) (Ev.now _))))))))
        · by_cases c3 : x.f1 > words - a
          · refine ⟨false, Ev.step (fun k => by rw [chain_May.l0]) ?_, ⟨fun h => (by cases h), fun h => by have := h.2.2.2.1; omega⟩⟩
            rw [rdt_mid, w2]
            refine ev_pos hlt (ev_pos (by omega) (ev_pos hlt (ev_pos c1 (ev_bindc (bmay_eq _) (ev_pos (by simp [c2]) ?_)))))
            exact ev_ite (fun _ => ev_ite (fun _ => ev_pos c3 (Ev.now _)) (fun _ => Ev.now _)) (fun _ => ev_pos c3 (Ev.now _))
          · have w3 : wrap64 (a + x.f1) = a + x.f1 := w64 (by omega)
            obtain ⟨b, hb, hi⟩ := ih (pre ++ [x]) (a + x.f1) (!x.f2) (by omega) (by omega) (by rw [← e]; exact hl)
            rw [hlen2, ← e] at hb
            refine ⟨b, Ev.step (fun k => by rw [chain_May.l0]) ?_, ?_⟩
            · rw [rdt_mid, w2, w1, w3]
              refine ev_pos hlt (ev_pos (by omega) (ev_pos hlt (ev_pos c1 (ev_bindc (bmay_eq _) (ev_pos (by simp [c2]) ?_)))))
              refine ev_ite (fun hf => ?_) (fun _ => ev_neg c3 hb)
              refine ev_pos ?_ (ev_neg c3 hb)
              cases hx : x.f2 with
              | true => rfl
              | false => exact absurd ⟨hf, hx⟩ c4
            · rw [hi]
              constructor
              · intro h
                exact ⟨c1, c2.1, c2.2, by omega, fun hf => by
                  cases hx : x.f2 with
                  | true => rfl
                  | false => exact absurd ⟨hf, hx⟩ c4, h⟩
              · exact fun h => h.2.2.2.2.2
      · refine ⟨false, Ev.step (fun k => by rw [chain_May.l0]) ?_, ⟨fun h => (by cases h), fun h => absurd ⟨h.2.1, h.2.2.1⟩ c2⟩⟩
        rw [rdt_mid]
        exact ev_pos hlt (ev_pos (by omega) (ev_pos hlt (ev_pos c1 (ev_bindc (bmay_eq _) (ev_neg (by simp; omega) (Ev.now _))))))
    · refine ⟨false, Ev.step (fun k => by rw [chain_May.l0]) ?_, ⟨fun h => (by cases h), fun h => absurd h.1 c1⟩⟩
      rw [rdt_mid]
      exact ev_pos hlt (ev_pos (by omega) (ev_pos hlt (ev_neg c1 (Ev.now _))))
theorem cmay_ev {l : List S35} (words : Int) (hl : l.length ≤ 100000) : ∃ b, Ev (fun k => chain_May.f k l words) b ∧ (b = true ↔ MayB l words) := by
  unfold chain_May.f
  by_cases h : 8 ≤ words ∧ words ≤ 512 ∧ words % 8 = 0
  · obtain ⟨b, hb, hi⟩ := cmay_l0 (words := words) (by omega) l [] 0 false (by omega) (by omega) hl
    refine ⟨b, ev_bindc (cmayw_eq words) (ev_pos (by simp [h]) hb), hi.trans ⟨fun hh => ⟨h, hh⟩, fun hh => hh.2⟩⟩
  · exact ⟨false, ev_bindc (cmayw_eq words) (ev_neg (by simpa using h) (Ev.now _)), ⟨fun hh => (by cases hh), fun hh => absurd hh.1 h⟩⟩
theorem cmay_yes {l : List S35} {words : Int} (hl : l.length ≤ 100000) (h : MayB l words) : Ev (fun k => chain_May.f k l words) true := by
  obtain ⟨b, hb, hi⟩ := cmay_ev words hl
  rwa [hi.2 h] at hb
theorem cmay_no {l : List S35} {words : Int} (hl : l.length ≤ 100000) (h : ¬ MayB l words) : Ev (fun k => chain_May.f k l words) false := by
  obtain ⟨b, hb, hi⟩ := cmay_ev words hl
  cases b with
  | true => exact absurd (hi.1 rfl) h
  | false => exact hb
theorem blk_ext {a b : S35} (h0 : a.f0 = b.f0) (h1 : a.f1 = b.f1) (h2 : a.f2 = b.f2) : a = b := by
  cases a; cases b; simp at h0 h1 h2; simp [h0, h1, h2]
theorem parse_eq {w : Int} (h : 0 ≤ w ∧ w ≤ 18446744073709551615) :
    block_Parse.f w = if 2 ≤ w / 2 ∧ w / 2 ≤ 512 then some (w / 2, w % 2 == 1, true) else some (0, false, false) := by
  unfold block_Parse.f block_May.f
  rw [u64_and1 h.1 h.2, w64 (by omega)]
  by_cases h1 : w / 2 > 512
  · rw [if_pos h1, if_neg (by omega)]
  · rw [if_neg h1]
    by_cases h2 : w / 2 ≥ 2
    · rw [if_pos h2, if_pos (by omega)]
      simp only [Option.bind_some]
      rw [if_pos (by simp; omega)]
    · rw [if_neg h2, if_neg (by omega)]; rfl
theorem word_eq (n : Int) (u : Bool) : block_Word.f n u = some (if 2 ≤ n ∧ n ≤ 512 then 2 * n + (if u then 1 else 0) else 0) := by
  unfold block_Word.f block_May.f
  by_cases h : 2 ≤ n ∧ n ≤ 512
  · rw [if_pos (by omega), if_pos h]
    simp only [Option.bind_some]
    rw [if_pos (by simp; omega)]
    have e : IntKind.u64.wrap (IntKind.u64.wrap n * 2) = 2 * n := by rw [u64w, u64w]; omega
    rw [e]
    cases u
    · simp
    · simp only [if_true]; rw [u64_or1 (by omega) (by omega) (by omega)]
  · rw [if_neg h]
    by_cases h2 : n ≥ 2
    · rw [if_pos h2]; simp only [Option.bind_some]; rw [if_neg (by simp; omega)]
    · rw [if_neg h2]; rfl
/-- The words that the statement speaks of. -/
def Wds (w : List Int) : Prop := w.length ≤ 2000 ∧ ∀ j : Int, 0 ≤ rd w j ∧ rd w j ≤ 18446744073709551615
theorem wds_of {w : List Int} (h : ∀ x ∈ w, (Lit.int .u64 x).wf = true) (hl : w.length ≤ 2000) : Wds w := by
  refine ⟨hl, fun j => ?_⟩
  unfold rd
  rw [List.getD_eq_getElem?_getD]
  by_cases hj : j.toNat < w.length
  · rw [List.getElem?_eq_getElem hj]
    exact wfu64 (h _ (List.getElem_mem hj))
  · rw [List.getElem?_eq_none (by omega)]; exact ⟨by decide, by decide⟩
/-- The blocks that words are, from a word on. -/
def ParseP (w : List Int) : Int → List S35 → Prop
  | a, [] => (w.length : Int) ≤ a
  | a, b :: l => a < w.length ∧ b.f0 = a ∧ 2 ≤ rd w a / 2 ∧ rd w a / 2 ≤ 512 ∧ b.f1 = rd w a / 2 ∧ b.f2 = (rd w a % 2 == 1) ∧ ParseP w (a + b.f1) l
theorem parse_one {w : List Int} {l : List S35} : ∀ {a : Int} {m : List S35}, ParseP w a l → ParseP w a m → l = m := by
  induction l with
  | nil =>
    intro a m h h'
    cases m with
    | nil => rfl
    | cons b m => have h1 : (w.length : Int) ≤ a := h; have := h'.1; omega
  | cons b l ih =>
    intro a m h h'
    cases m with
    | nil => have h1 : (w.length : Int) ≤ a := h'; have := h.1; omega
    | cons c m =>
      obtain ⟨a0, a1, a2, a3, a4, a5, a6⟩ := h
      obtain ⟨b0, b1, b2, b3, b4, b5, b6⟩ := h'
      have e : b = c := blk_ext (by rw [a1, b1]) (by rw [a4, b4]) (by rw [a5, b5])
      subst e
      rw [ih a6 b6]
def BlocksP (w : List Int) (r : List S35 × Bool) : Prop :=
  (ParseP w 0 r.1 ∧ MayB r.1 w.length ∧ r.2 = true) ∨ ((∀ l, ParseP w 0 l → ¬ MayB l w.length) ∧ r = ([], false))
theorem blocks_one {w : List Int} {r r' : List S35 × Bool} (h : BlocksP w r) (h' : BlocksP w r') : r = r' := by
  rcases h with ⟨a, b, c⟩ | ⟨a, b⟩
  · rcases h' with ⟨a', b', c'⟩ | ⟨a', b'⟩
    · exact Prod.ext (parse_one a a') (by rw [c, c'])
    · exact absurd b (a' _ a)
  · rcases h' with ⟨a', b', c'⟩ | ⟨a', b'⟩
    · exact absurd b' (a _ a')
    · rw [b, b']
theorem blocks_l0 {w : List Int} (hw : Wds w) (d : Nat) : ∀ (acc : List S35) (a : Int), 0 ≤ a → (w.length : Int) ≤ a + d → a ≤ 3000 → (acc.length : Int) ≤ a →
    ∃ r, Ev (fun k => chain_Blocks.l0 k w acc a) r ∧ ((∃ l, ParseP w a l ∧ MayB (acc ++ l) w.length ∧ r = (acc ++ l, true)) ∨ ((∀ l, ParseP w a l → ¬ MayB (acc ++ l) w.length) ∧ r = ([], false))) := by
  have hlen := hw.1
  have fin : ∀ (acc : List S35) (a : Int), 0 ≤ a → (w.length : Int) ≤ a → a ≤ 3000 → (acc.length : Int) ≤ a →
      ∃ r, Ev (fun k => chain_Blocks.l0 k w acc a) r ∧ ((∃ l, ParseP w a l ∧ MayB (acc ++ l) w.length ∧ r = (acc ++ l, true)) ∨ ((∀ l, ParseP w a l → ¬ MayB (acc ++ l) w.length) ∧ r = ([], false))) := by
    intro acc a h0 h1 h2 h3
    obtain ⟨b, hb, hi⟩ := cmay_ev (l := acc) (w.length : Int) (by omega)
    have pn : ∀ l, ParseP w a l → l = [] := fun l hl => by
      cases l with
      | nil => rfl
      | cons c l => have := hl.1; omega
    cases b with
    | true =>
      refine ⟨(acc, true), Ev.step (fun k => by rw [chain_Blocks.l0]) ?_, Or.inl ⟨[], h1, by rw [List.append_nil]; exact hi.1 rfl, by rw [List.append_nil]⟩⟩
      exact ev_neg (by omega) (ev_bind hb (ev_pos rfl (Ev.now _)))
    | false =>
      refine ⟨([], false), Ev.step (fun k => by rw [chain_Blocks.l0]) ?_, Or.inr ⟨fun l hl hm => ?_, rfl⟩⟩
      · exact ev_neg (by omega) (ev_bind hb (ev_neg (by decide) (Ev.now _)))
      · rw [pn l hl, List.append_nil] at hm
        have := hi.2 hm
        cases this
  induction d with
  | zero => intro acc a h0 h1; exact fin acc a h0 (by omega)
  | succ d ih =>
    intro acc a h0 h1 h2 h3
    by_cases ha : (w.length : Int) ≤ a
    · exact fin acc a h0 ha h2 h3
    · have hr := hw.2 a
      by_cases hp : 2 ≤ rd w a / 2 ∧ rd w a / 2 ≤ 512
      · obtain ⟨r, hb, hi⟩ := ih (acc ++ [(⟨a, rd w a / 2, rd w a % 2 == 1⟩ : S35)]) (a + rd w a / 2) (by omega) (by omega) (by omega) (by simp; omega)
        refine ⟨r, Ev.step (fun k => by rw [chain_Blocks.l0]) ?_, ?_⟩
        · rw [parse_eq hr, if_pos hp]
          refine ev_pos (by omega) (ev_pos h0 (ev_bindc rfl ?_))
          refine ev_pos rfl (ev_pos (by omega) ?_)
          rw [w64 (n := a + rd w a / 2) (by omega)]
          exact hb
        · rcases hi with ⟨l, q1, q2, q3⟩ | ⟨q1, q2⟩
          · refine Or.inl ⟨(⟨a, rd w a / 2, rd w a % 2 == 1⟩ : S35) :: l, ⟨by omega, rfl, hp.1, hp.2, rfl, rfl, q1⟩, ?_, ?_⟩
            · rw [List.append_assoc] at q2; exact q2
            · rw [q3, List.append_assoc]; rfl
          · refine Or.inr ⟨fun l hl => ?_, q2⟩
            cases l with
            | nil => have hl : (w.length : Int) ≤ a := hl; omega
            | cons b l =>
              obtain ⟨b0, b1, b2, b3, b4, b5, b6⟩ := hl
              have e : b = (⟨a, rd w a / 2, rd w a % 2 == 1⟩ : S35) := blk_ext b1 b4 b5
              rw [b4] at b6
              have := q1 l b6
              rw [List.append_assoc] at this
              rw [e]; exact this
      · refine ⟨([], false), Ev.step (fun k => by rw [chain_Blocks.l0]) ?_, Or.inr ⟨fun l hl => ?_, rfl⟩⟩
        · rw [parse_eq hr, if_neg hp]
          exact ev_pos (by omega) (ev_pos h0 (ev_bindc rfl (ev_neg (by decide) (Ev.now _))))
        · cases l with
          | nil => have hl : (w.length : Int) ≤ a := hl; omega
          | cons b l => exact absurd ⟨hl.2.2.1, hl.2.2.2.1⟩ hp
theorem blocks_ev {w : List Int} (hw : Wds w) : ∃ r, Ev (fun k => chain_Blocks.f k w) r ∧ BlocksP w r := by
  have hlen := hw.1
  obtain ⟨r, h1, h2⟩ := blocks_l0 hw w.length [] 0 (by omega) (by omega) (by omega) (by simp)
  refine ⟨r, h1, ?_⟩
  rcases h2 with ⟨l, a, b, c⟩ | ⟨a, b⟩
  · rw [c]; exact Or.inl ⟨a, b, rfl⟩
  · exact Or.inr ⟨a, b⟩
theorem blocks_yes {w : List Int} {l : List S35} (hw : Wds w) (hp : ParseP w 0 l) (hm : MayB l w.length) : Ev (fun k => chain_Blocks.f k w) (l, true) := by
  obtain ⟨r, h1, h2⟩ := blocks_ev hw
  have := blocks_one h2 (Or.inl ⟨hp, hm, rfl⟩ : BlocksP w (l, true))
  rwa [this] at h1
theorem blocks_no {w : List Int} (hw : Wds w) (h : ∀ l : List S35, ParseP w 0 l → ¬ MayB l w.length) : Ev (fun k => chain_Blocks.f k w) ([], false) := by
  obtain ⟨r, h1, h2⟩ := blocks_ev hw
  have := blocks_one h2 (Or.inr ⟨h, rfl⟩ : BlocksP w ([], false))
  rwa [this] at h1
/-- The header of a block. -/
def headOf (b : S35) : Int := 2 * b.f1 + (if b.f2 = true then 1 else 0)
theorem head_r (b : S35) : (headOf b / 2 = b.f1) ∧ ((headOf b % 2 == 1) = b.f2) := by
  unfold headOf
  cases b.f2
  · rw [if_neg (by decide)]; exact ⟨by omega, by rw [beq_eq_false_iff_ne]; omega⟩
  · rw [if_pos rfl]; exact ⟨by omega, by rw [beq_iff_eq]; omega⟩
/-- Words at which the blocks' headers stand are those blocks. -/
theorem parse_of {w : List Int} {l : List S35} : ∀ {a : Int} {fr : Bool}, ChainP w.length a fr l → (∀ b ∈ l, rd w b.f0 = headOf b) → ParseP w a l := by
  induction l with
  | nil => intro a fr h _; have h : a = w.length := h; show (w.length : Int) ≤ a; omega
  | cons b l ih =>
    intro a fr h hh
    obtain ⟨h0, h1, h2, h3, h4, h5⟩ := h
    have hb := hh b (by simp)
    rw [h0] at hb
    have hr := head_r b
    exact ⟨by omega, h0, by rw [hb, hr.1]; exact h1, by rw [hb, hr.1]; exact h2, by rw [hb, hr.1], by rw [hb, hr.2], ih h5 (fun c hc => hh c (by simp [hc]))⟩
def Counted (l : List S35) : Prop := (∀ b ∈ l, 2 ≤ b.f1 ∧ b.f1 ≤ 512) ∧ l.length ≤ 512
/-- How many words are free. -/
def freeS : List S35 → Int
  | [] => 0
  | b :: l => (if b.f2 = true then 0 else b.f1) + freeS l
theorem freeS_cons (b : S35) (l : List S35) : freeS (b :: l) = (if b.f2 = true then 0 else b.f1) + freeS l := rfl
theorem free_r {l : List S35} (h : ∀ b ∈ l, 2 ≤ b.f1 ∧ b.f1 ≤ 512) : 0 ≤ freeS l ∧ freeS l ≤ 512 * l.length := by
  induction l with
  | nil => exact ⟨Int.le_refl _, Int.le_refl _⟩
  | cons b l ih =>
    have h1 := ih (fun c hc => h c (by simp [hc]))
    have h2 := h b (by simp)
    rw [freeS_cons]
    have e : ((b :: l).length : Int) = l.length + 1 := by simp
    rw [e]
    by_cases c : b.f2 = true
    · rw [if_pos c]; omega
    · rw [if_neg c]; omega
theorem counted_of {l : List S35} {words : Int} (h : MayB l words) : Counted l := by
  refine ⟨fun b hb => ?_, ?_⟩
  · have := chain_mem h.2 b hb; omega
  · have h1 := chain_len h.2
    have h2 := h.1.2.1
    omega
theorem maybe_l0 {l : List S35} (hl : l.length ≤ 100000) (suf : List S35) : ∀ pre : List S35, l = pre ++ suf →
    ∃ b, Ev (fun k => chain_mayBe.l0 k l l (l.length : Int) (pre.length : Int)) b ∧ (b = true ↔ (∀ x ∈ suf, 2 ≤ x.f1 ∧ x.f1 ≤ 512) ∧ l.length ≤ 512) := by
  induction suf with
  | nil =>
    intro pre he
    refine ⟨decide ((l.length : Int) ≤ 512), Ev.step (fun k => by rw [chain_mayBe.l0]) (ev_neg (by rw [he]; simp) (Ev.now _)), ?_⟩
    rw [decide_eq_true_iff]
    exact ⟨fun h => ⟨fun x hx => absurd hx (by simp), by omega⟩, fun h => by omega⟩
  | cons x suf ih =>
    intro pre he
    have hlt : (pre.length : Int) < (l.length : Int) := by rw [he]; simp; omega
    have em : rd_T35 l (pre.length : Int) = x := by rw [he]; exact rdt_mid pre suf x
    have w1 : wrap64 ((pre.length : Int) + 1) = ((pre ++ [x]).length : Int) := by rw [w64 (by omega)]; simp
    by_cases c : 2 ≤ x.f1 ∧ x.f1 ≤ 512
    · obtain ⟨b, hb, hi⟩ := ih (pre ++ [x]) (by rw [he]; simp)
      refine ⟨b, Ev.step (fun k => by rw [chain_mayBe.l0]) ?_, hi.trans ⟨fun h => ⟨fun y hy => ?_, h.2⟩, fun h => ⟨fun y hy => h.1 y (by simp [hy]), h.2⟩⟩⟩
      · rw [em, w1]
        exact ev_pos hlt (ev_pos (by omega) (ev_pos hlt (ev_bindc (bmay_eq _) (ev_pos (by simp [c]) hb))))
      · rcases List.mem_cons.1 hy with hy | hy
        · rw [hy]; exact c
        · exact h.1 y hy
    · refine ⟨false, Ev.step (fun k => by rw [chain_mayBe.l0]) ?_, ⟨fun h => (by cases h), fun h => absurd (h.1 x (by simp)) c⟩⟩
      rw [em]
      exact ev_pos hlt (ev_pos (by omega) (ev_pos hlt (ev_bindc (bmay_eq _) (ev_neg (by simpa using c) (Ev.now _)))))
theorem maybe_ev {l : List S35} (hl : l.length ≤ 100000) : ∃ b, Ev (fun k => chain_mayBe.f k l) b ∧ (b = true ↔ Counted l) :=
  maybe_l0 hl l [] rfl
theorem free_l0 {l : List S35} (hl : l.length ≤ 100000) (suf : List S35) : ∀ (pre : List S35) (n : Int), l = pre ++ suf → (Counted l → 0 ≤ n ∧ n ≤ 512 * pre.length) →
    ∃ r, Ev (fun k => chain_Free.l0 k l n l (l.length : Int) (pre.length : Int)) r ∧ (Counted l → r = n + freeS suf) ∧ (¬ Counted l → r = n) := by
  induction suf with
  | nil =>
    intro pre n he hn
    refine ⟨n, Ev.step (fun k => by rw [chain_Free.l0]) (ev_neg (by rw [he]; simp) (Ev.now _)), fun _ => ?_, fun _ => rfl⟩
    show n = n + 0; omega
  | cons x suf ih =>
    intro pre n he hn
    have hlt : (pre.length : Int) < (l.length : Int) := by rw [he]; simp; omega
    have em : rd_T35 l (pre.length : Int) = x := by rw [he]; exact rdt_mid pre suf x
    have w1 : wrap64 ((pre.length : Int) + 1) = ((pre ++ [x]).length : Int) := by rw [w64 (by omega)]; simp
    have he2 : l = (pre ++ [x]) ++ suf := by rw [he]; simp
    have hl2 : ((pre ++ [x]).length : Int) = pre.length + 1 := by simp
    by_cases cu : x.f2 = true
    · obtain ⟨r, hr, h1, h2⟩ := ih (pre ++ [x]) n he2 (fun h => by have := hn h; omega)
      refine ⟨r, Ev.step (fun k => by rw [chain_Free.l0]) ?_, fun h => ?_, h2⟩
      · rw [em, w1]
        exact ev_pos hlt (ev_pos (by omega) (ev_pos hlt (ev_pos cu hr)))
      · rw [h1 h, freeS_cons, if_pos cu]; omega
    · obtain ⟨b, hb, hi⟩ := maybe_ev hl
      by_cases hc : Counted l
      · have hx : 2 ≤ x.f1 ∧ x.f1 ≤ 512 := hc.1 x (by rw [he]; simp)
        have hn1 := hn hc
        have h512 := hc.2
        obtain ⟨r, hr, h1, h2⟩ := ih (pre ++ [x]) (n + x.f1) he2 (fun h => by omega)
        refine ⟨r, Ev.step (fun k => by rw [chain_Free.l0]) ?_, fun h => ?_, fun h => absurd hc h⟩
        · rw [em, w1, w64 (n := n + x.f1) (by omega)]
          exact ev_pos hlt (ev_pos (by omega) (ev_pos hlt (ev_neg cu (ev_bind hb (ev_pos (hi.2 hc) hr)))))
        · rw [h1 h, freeS_cons, if_neg cu]; omega
      · obtain ⟨r, hr, h1, h2⟩ := ih (pre ++ [x]) n he2 (fun h => absurd h hc)
        refine ⟨r, Ev.step (fun k => by rw [chain_Free.l0]) ?_, fun h => absurd h hc, h2⟩
        rw [em, w1]
        exact ev_pos hlt (ev_pos (by omega) (ev_pos hlt (ev_neg cu (ev_bind hb (ev_neg (fun h => hc (hi.1 h)) hr)))))
theorem free_ev {l : List S35} (hl : l.length ≤ 100000) : ∃ r, Ev (fun k => chain_Free.f k l) r ∧ (Counted l → r = freeS l) ∧ (¬ Counted l → r = 0) := by
  obtain ⟨r, hr, h1, h2⟩ := free_l0 hl l [] 0 rfl (fun _ => ⟨Int.le_refl _, by simp⟩)
  exact ⟨r, hr, fun h => by rw [h1 h]; omega, h2⟩
theorem maysize_eq (n : Int) : darningref4_MaySize.f n = some (decide (2 ≤ n ∧ n ≤ 512)) := by
  unfold darningref4_MaySize.f
  by_cases h2 : n ≥ 2
  · rw [if_pos h2]; congr 1; rw [Bool.eq_iff_iff]; simp only [decide_eq_true_iff]; omega
  · rw [if_neg h2, decide_eq_false (by omega)]
theorem rmayw_eq (n : Int) : darningref4_mayWords.f n = some (decide (8 ≤ n ∧ n ≤ 512 ∧ n % 8 = 0)) := by
  unfold darningref4_mayWords.f
  by_cases h1 : n ≥ 8
  · rw [if_pos h1]
    by_cases h2 : n ≤ 512
    · rw [if_pos h2, tmodp (by omega)]
      congr 1
      rw [Bool.eq_iff_iff, beq_iff_eq, decide_eq_true_iff]
      exact ⟨fun h => ⟨h1, h2, h⟩, fun h => h.2.2⟩
    · rw [if_neg h2, decide_eq_false (by omega)]
  · rw [if_neg h1, decide_eq_false (by omega)]
theorem mayb_l0 {words : Int} (hw : words ≤ 512) (suf : List S35) : ∀ (pre : List S35) (a : Int), 0 ≤ a → a ≤ words → (pre ++ suf).length ≤ 100000 →
    ∃ b, Ev (fun k => darningref4_MayBlocks.l0 k (pre ++ suf) words a (pre ++ suf) ((pre ++ suf).length : Int) (pre.length : Int)) b ∧ (b = true ↔ ChainP words a (frOf pre) suf) := by
  induction suf with
  | nil =>
    intro pre a h0 h1 hl
    refine ⟨a == words, Ev.step (fun k => by rw [darningref4_MayBlocks.l0]) (ev_neg (by simp) (Ev.now _)), ?_⟩
    rw [beq_iff_eq]; exact Iff.rfl
  | cons x suf ih =>
    intro pre a h0 h1 hl
    have e : pre ++ x :: suf = (pre ++ [x]) ++ suf := by simp
    have hlen2 : ((pre ++ [x]).length : Int) = (pre.length : Int) + 1 := by simp
    have hlt : (pre.length : Int) < ((pre ++ x :: suf).length : Int) := by simp; omega
    have w1 : wrap64 ((pre.length : Int) + 1) = (pre.length : Int) + 1 := w64 (by simp at hl; omega)
    have w2 : wrap64 (words - a) = words - a := w64 (by omega)
    by_cases c1 : x.f0 = a
    · by_cases c2 : 2 ≤ x.f1 ∧ x.f1 ≤ 512
      · by_cases c3 : x.f1 > words - a
        · refine ⟨false, Ev.step (fun k => by rw [darningref4_MayBlocks.l0]) ?_, ⟨fun h => (by cases h), fun h => by have := h.2.2.2.1; omega⟩⟩
          rw [rdt_mid, w2]
          exact ev_pos hlt (ev_pos (by omega) (ev_pos hlt (ev_pos c1 (ev_bindc (maysize_eq _) (ev_pos (by simp [c2]) (ev_pos c3 (Ev.now _)))))))
        · have w3 : wrap64 (a + x.f1) = a + x.f1 := w64 (by omega)
          obtain ⟨b, hb, hi⟩ := ih (pre ++ [x]) (a + x.f1) (by omega) (by omega) (by rw [← e]; exact hl)
          rw [hlen2, ← e] at hb
          rw [frOf_snoc] at hi
          by_cases c4 : frOf pre = true ∧ x.f2 = false
          · obtain ⟨m, y, hm, hy⟩ := frOf_pos c4.1
            refine ⟨false, Ev.step (fun k => by rw [darningref4_MayBlocks.l0]) ?_, ⟨fun h => (by cases h), fun h => by have := h.2.2.2.2.1 c4.1; rw [c4.2] at this; cases this⟩⟩
            rw [rdt_mid, w2, w1, w3]
            refine ev_pos hlt (ev_pos (by omega) (ev_pos hlt (ev_pos c1 (ev_bindc (maysize_eq _) (ev_pos (by simp [c2]) (ev_neg c3 ?_))))))
            have hp : 0 < (pre.length : Int) := by rw [hm, List.length_append, List.length_singleton]; omega
            refine ev_pos hp (ev_neg (by rw [c4.2]; decide) ?_)
            have w4 : wrap64 ((pre.length : Int) - 1) = (pre.length : Int) - 1 := w64 (by simp at hl; omega)
            rw [w4]
            refine ev_pos (by omega) (ev_pos (by omega) (ev_neg ?_ (Ev.now _)))
            have e2 : rd_T35 (pre ++ x :: suf) ((pre.length : Int) - 1) = y := by rw [hm]; exact rdt_last m (x :: suf) y
            rw [e2, hy]; decide
          · refine ⟨b, Ev.step (fun k => by rw [darningref4_MayBlocks.l0]) ?_, ?_⟩
            · rw [rdt_mid, w2, w1, w3]
              refine ev_pos hlt (ev_pos (by omega) (ev_pos hlt (ev_pos c1 (ev_bindc (maysize_eq _) (ev_pos (by simp [c2]) (ev_neg c3 ?_))))))
              refine ev_ite (fun hp => ev_ite (fun _ => hb) (fun hu => ?_)) (fun _ => hb)
              have w4 : wrap64 ((pre.length : Int) - 1) = (pre.length : Int) - 1 := w64 (by simp at hl; omega)
              rw [w4]
              refine ev_pos (by omega) (ev_pos (by omega) (ev_pos ?_ hb))
              rcases List.eq_nil_or_concat pre with hn | ⟨m, y, hm⟩
              · subst hn; simp at hp
              · rw [List.concat_eq_append] at hm
                have e2 : rd_T35 (pre ++ x :: suf) ((pre.length : Int) - 1) = y := by rw [hm]; exact rdt_last m (x :: suf) y
                rw [e2]
                have hfr : frOf pre = !y.f2 := by rw [hm, frOf_snoc]
                rw [hfr] at c4
                cases hy : y.f2 with
                | true => rfl
                | false =>
                  exact absurd ⟨by rw [hy]; rfl, by simpa using hu⟩ c4
            · rw [hi]
              constructor
              · intro h
                exact ⟨c1, c2.1, c2.2, by omega, fun hf => by
                  cases hx : x.f2 with
                  | true => rfl
                  | false => exact absurd ⟨hf, hx⟩ c4, h⟩
              · exact fun h => h.2.2.2.2.2
      · refine ⟨false, Ev.step (fun k => by rw [darningref4_MayBlocks.l0]) ?_, ⟨fun h => (by cases h), fun h => absurd ⟨h.2.1, h.2.2.1⟩ c2⟩⟩
        rw [rdt_mid]
        exact ev_pos hlt (ev_pos (by omega) (ev_pos hlt (ev_pos c1 (ev_bindc (maysize_eq _) (ev_neg (by simp; omega) (Ev.now _))))))
    · refine ⟨false, Ev.step (fun k => by rw [darningref4_MayBlocks.l0]) ?_, ⟨fun h => (by cases h), fun h => absurd h.1 c1⟩⟩
      rw [rdt_mid]
      exact ev_pos hlt (ev_pos (by omega) (ev_pos hlt (ev_neg c1 (Ev.now _))))
theorem mayb_ev {l : List S35} (words : Int) (hl : l.length ≤ 100000) : ∃ b, Ev (fun k => darningref4_MayBlocks.f k l words) b ∧ (b = true ↔ MayB l words) := by
  unfold darningref4_MayBlocks.f
  by_cases h : 8 ≤ words ∧ words ≤ 512 ∧ words % 8 = 0
  · obtain ⟨b, hb, hi⟩ := mayb_l0 h.2.1 l [] 0 (by omega) (by omega) hl
    refine ⟨b, ev_bindc (rmayw_eq words) (ev_pos (by simp [h]) hb), hi.trans ⟨fun hh => ⟨h, hh⟩, fun hh => hh.2⟩⟩
  · exact ⟨false, ev_bindc (rmayw_eq words) (ev_neg (by simpa using h) (Ev.now _)), ⟨fun hh => (by cases hh), fun hh => absurd hh.1 h⟩⟩
theorem mayb_yes {l : List S35} {words : Int} (hl : l.length ≤ 100000) (h : MayB l words) : Ev (fun k => darningref4_MayBlocks.f k l words) true := by
  obtain ⟨b, hb, hi⟩ := mayb_ev words hl
  rwa [hi.2 h] at hb
theorem mayb_no {l : List S35} {words : Int} (hl : l.length ≤ 100000) (h : ¬ MayB l words) : Ev (fun k => darningref4_MayBlocks.f k l words) false := by
  obtain ⟨b, hb, hi⟩ := mayb_ev words hl
  cases b with
  | true => exact absurd (hi.1 rfl) h
  | false => exact hb
def sumS : List S35 → Int
  | [] => 0
  | b :: l => b.f1 + sumS l
/-- What is behind some blocks of blocks side by side. -/
theorem chain_app {words : Int} (suf : List S35) (pre : List S35) : ∀ {a : Int} {fr : Bool}, ChainP words a fr (pre ++ suf) → ∃ fr', ChainP words (a + sumS pre) fr' suf := by
  induction pre with
  | nil => intro a fr h; exact ⟨fr, by show ChainP words (a + 0) fr suf; rw [Int.add_zero]; exact h⟩
  | cons b pre ih =>
    intro a fr h
    obtain ⟨c0, c1, c2, c3, c4, c5⟩ := h
    obtain ⟨fr', h'⟩ := ih c5
    refine ⟨fr', ?_⟩
    show ChainP words (a + (b.f1 + sumS pre)) fr' suf
    rw [← Int.add_assoc]; exact h'
theorem chain_total {words : Int} (l : List S35) {a : Int} {fr : Bool} (h : ChainP words a fr l) : words = a + sumS l := by
  obtain ⟨fr', h'⟩ := chain_app [] l (by rw [List.append_nil]; exact h)
  have h' : a + sumS l = words := h'
  omega
theorem set_mid (pre suf : List S35) (x y : S35) : (pre ++ x :: suf).set pre.length y = pre ++ y :: suf := by
  rw [List.set_append, if_neg (by omega), Nat.sub_self, List.set_cons_zero]
theorem split_two {l : List S35} {j : Int} (h0 : 0 ≤ j) (h1 : j + 1 < l.length) : ∃ pre x y suf, l = pre ++ x :: y :: suf ∧ (pre.length : Int) = j := by
  refine ⟨l.take j.toNat, l[j.toNat]'(by omega), l[j.toNat + 1]'(by omega), l.drop (j.toNat + 2), ?_, by rw [List.length_take]; omega⟩
  rw [← List.drop_eq_getElem_cons (by omega), ← List.drop_eq_getElem_cons (by omega)]
  exact (List.take_append_drop _ _).symm
theorem same_l0 {l m : List S35} (hl : l.length = m.length) (hlen : l.length ≤ 100000) (suf : List S35) : ∀ (pre suf2 : List S35), l = pre ++ suf → m = pre ++ suf2 →
    ∃ b, Ev (fun k => darningref4_SameBlocks.l0 k l m (l.length : Int) (pre.length : Int)) b ∧ (b = true ↔ suf = suf2) := by
  induction suf with
  | nil =>
    intro pre suf2 h1 h2
    have : suf2 = [] := by
      rw [h1, h2] at hl
      cases suf2 with
      | nil => rfl
      | cons x s => simp at hl
    subst this
    exact ⟨true, Ev.step (fun k => by rw [darningref4_SameBlocks.l0]) (ev_neg (by rw [h1]; simp) (Ev.now _)), by simp⟩
  | cons x suf ih =>
    intro pre suf2 h1 h2
    cases suf2 with
    | nil => rw [h1, h2] at hl; simp at hl
    | cons y suf2 =>
      have hlt : (pre.length : Int) < (l.length : Int) := by rw [h1]; simp; omega
      have em : rd_T35 l (pre.length : Int) = x := by rw [h1]; exact rdt_mid pre suf x
      have em2 : rd_T35 m (pre.length : Int) = y := by rw [h2]; exact rdt_mid pre suf2 y
      have w1 : wrap64 ((pre.length : Int) + 1) = ((pre ++ [x]).length : Int) := by rw [w64 (by omega)]; simp
      by_cases c : x = y
      · subst c
        obtain ⟨b, hb, hi⟩ := ih (pre ++ [x]) suf2 (by rw [h1]; simp) (by rw [h2]; simp)
        refine ⟨b, Ev.step (fun k => by rw [darningref4_SameBlocks.l0]) ?_, hi.trans (by simp)⟩
        rw [em, em2, w1]
        exact ev_pos hlt (ev_pos (by omega) (ev_pos hlt (ev_pos (by omega) (ev_neg (by simp) hb))))
      · refine ⟨false, Ev.step (fun k => by rw [darningref4_SameBlocks.l0]) ?_, ⟨fun h => (by cases h), fun h => absurd (List.cons.inj h).1 c⟩⟩
        rw [em, em2]
        refine ev_pos hlt (ev_pos (by omega) (ev_pos hlt (ev_pos (by omega) (ev_pos ?_ (Ev.now _)))))
        by_cases c0 : x.f0 = y.f0
        · by_cases c1 : x.f1 = y.f1
          · by_cases c2 : x.f2 = y.f2
            · exact absurd (blk_ext c0 c1 c2) c
            · simp [c2]
          · simp [c1]
        · simp [c0]
theorem sameb_ev {l m : List S35} (hlen : l.length ≤ 100000) : ∃ b, Ev (fun k => darningref4_SameBlocks.f k l m) b ∧ (b = true ↔ l = m) := by
  unfold darningref4_SameBlocks.f
  by_cases h : l.length = m.length
  · obtain ⟨b, hb, hi⟩ := same_l0 h hlen l [] m rfl rfl
    exact ⟨b, ev_pos (by omega) hb, hi⟩
  · exact ⟨false, ev_neg (by omega) (Ev.now _), ⟨fun h => (by cases h), fun e => absurd (by rw [e]) h⟩⟩
theorem sameb_yes {l : List S35} (hlen : l.length ≤ 100000) : Ev (fun k => darningref4_SameBlocks.f k l l) true := by
  obtain ⟨b, hb, hi⟩ := sameb_ev (l := l) (m := l) hlen
  rwa [hi.2 rfl] at hb
theorem rword_eq (n : Int) (u : Bool) : darningref4_Word.f n u = block_Word.f n u := rfl
theorem rd_set {t : List Int} {i : Nat} (v j : Int) (hi : i < t.length) : rd (t.set i v) j = if j.toNat = i then v else rd t j := by
  unfold rd
  rw [List.getD_eq_getElem?_getD, List.getElem?_set, List.getD_eq_getElem?_getD]
  by_cases h : i = j.toNat
  · rw [if_pos h, if_pos (by omega), if_pos h.symm]; rfl
  · rw [if_neg h, if_neg (fun e => h e.symm)]
theorem rd_rep (n : Nat) (j : Int) : rd (List.replicate n 0) j = 0 := by
  unfold rd
  rw [List.getD_eq_getElem?_getD, List.getElem?_replicate]
  by_cases h : j.toNat < n
  · rw [if_pos h]; rfl
  · rw [if_neg h]; rfl
/-- Words in which the headers of blocks stand, and beside them what stood there. -/
def Heads (w v : List Int) (l : List S35) : Prop :=
  v.length = w.length ∧ (∀ b ∈ l, rd v b.f0 = headOf b) ∧ ∀ j : Int, 0 ≤ j → (∀ b ∈ l, j ≠ b.f0) → rd v j = rd w j
theorem words_l0 {words : Int} (_hwd : words ≤ 512) (l : List S35) (hl : l.length ≤ 100000) (suf : List S35) : ∀ (pre : List S35) (a : Int) (fr : Bool) (w : List Int), l = pre ++ suf → 0 ≤ a → ChainP words a fr suf → (w.length : Int) = words →
    ∃ v, Ev (fun k => darninglaw14_Words.l0 k w l (l.length : Int) (pre.length : Int)) v ∧ Heads w v suf := by
  induction suf with
  | nil =>
    intro pre a fr w he h0 hC hw
    exact ⟨w, Ev.step (fun k => by rw [darninglaw14_Words.l0]) (ev_neg (by rw [he]; simp) (Ev.now _)), rfl, fun b hb => absurd hb (by simp), fun j _ _ => rfl⟩
  | cons x suf ih =>
    intro pre a fr w he h0 hC hw
    have hlt : (pre.length : Int) < (l.length : Int) := by rw [he]; simp; omega
    have em : rd_T35 l (pre.length : Int) = x := by rw [he]; exact rdt_mid pre suf x
    have w1 : wrap64 ((pre.length : Int) + 1) = ((pre ++ [x]).length : Int) := by rw [w64 (by omega)]; simp
    have he2 : l = (pre ++ [x]) ++ suf := by rw [he]; simp
    obtain ⟨c0, c1, c2, c3, c4, c5⟩ := hC
    obtain ⟨v, hv, v1, v2, v3⟩ := ih (pre ++ [x]) (a + x.f1) (!x.f2) (w.set x.f0.toNat (headOf x)) he2 (by omega) c5 (by rw [List.length_set]; exact hw)
    have hup : ∀ b ∈ suf, x.f0 < b.f0 := fun b hb => by have := chain_mem c5 b hb; omega
    refine ⟨v, Ev.step (fun k => by rw [darninglaw14_Words.l0]) ?_, by rw [v1, List.length_set], fun b hb => ?_, fun j j0 hj => ?_⟩
    · rw [em, w1, rword_eq, word_eq, if_pos ⟨c1, c2⟩]
      exact ev_pos hlt (ev_pos (by omega) (ev_pos hlt (ev_pos (by omega) (ev_pos (by omega) (ev_bindc rfl (ev_pos (by omega) hv))))))
    · rcases List.mem_cons.1 hb with hb | hb
      · rw [hb, v3 x.f0 (by omega) (fun c hc => by have := hup c hc; omega), rd_set _ _ (by omega), if_pos rfl]
      · exact v2 b hb
    · rw [v3 j j0 (fun b hb => hj b (by simp [hb])), rd_set _ _ (by omega), if_neg (by have := hj x (by simp); omega)]
theorem words_ev {l : List S35} {words : Int} (hl : l.length ≤ 100000) (h : MayB l words) : ∃ v, Ev (fun k => darninglaw14_Words.f k l words) v ∧ Heads (List.replicate words.toNat 0) v l := by
  have hw := h.1
  unfold MayW at hw
  have e : mx 0 (mn words 512) = words := by unfold mx mn; (repeat' split) <;> omega
  unfold darninglaw14_Words.f
  rw [e]
  obtain ⟨v, h1, h2⟩ := words_l0 hw.2.1 l hl l [] 0 false (List.replicate words.toNat 0) rfl (Int.le_refl _) h.2 (by simp; omega)
  exact ⟨v, ev_pos (by omega) (ev_pos (by omega) h1), h2⟩
theorem heads_wds {l : List S35} {words : Int} {v : List Int} (h : MayB l words) (hv : Heads (List.replicate words.toNat 0) v l) : Wds v ∧ (v.length : Int) = words := by
  have hw := h.1
  unfold MayW at hw
  have hlen : (v.length : Int) = words := by rw [hv.1, List.length_replicate]; omega
  refine ⟨⟨by omega, fun j => ?_⟩, hlen⟩
  by_cases hj : 0 ≤ j
  · by_cases hb : ∃ b ∈ l, j = b.f0
    · obtain ⟨b, hb, rfl⟩ := hb
      have := chain_mem h.2 b hb
      rw [hv.2.1 b hb]
      unfold headOf
      cases b.f2
      · rw [if_neg (by decide)]; omega
      · rw [if_pos rfl]; omega
    · rw [hv.2.2 j hj (fun b hb2 e => hb ⟨b, hb2, e⟩), rd_rep]; omega
  · have e : rd v j = rd v 0 := by unfold rd; rw [show j.toNat = (0 : Int).toNat from by omega]
    rw [e]
    by_cases hb : ∃ b ∈ l, (0 : Int) = b.f0
    · obtain ⟨b, hb, hb0⟩ := hb
      have := chain_mem h.2 b hb
      rw [hb0, hv.2.1 b hb]
      unfold headOf
      cases b.f2
      · rw [if_neg (by decide)]; omega
      · rw [if_pos rfl]; omega
    · rw [hv.2.2 0 (by omega) (fun b hb2 e => hb ⟨b, hb2, e⟩), rd_rep]; omega
/-- The blocks of words in which the headers of blocks stand. -/
theorem heads_blocks {l : List S35} {words : Int} {v : List Int} (h : MayB l words) (hv : Heads (List.replicate words.toNat 0) v l) : Ev (fun k => chain_Blocks.f k v) (l, true) := by
  obtain ⟨hW, hlen⟩ := heads_wds h hv
  exact blocks_yes hW (parse_of (fr := false) (by rw [hlen]; exact h.2) hv.2.1) (by rw [hlen]; exact h)
/-- A word that is no header where a block began: no blocks are read. -/
theorem parse_bad {v : List Int} {words : Int} (b : S35) (suf : List S35) (hb : ¬ (2 ≤ rd v b.f0 / 2 ∧ rd v b.f0 / 2 ≤ 512)) (hv : (v.length : Int) = words) (pre : List S35) : ∀ {a : Int} {fr : Bool}, ChainP words a fr (pre ++ b :: suf) → (∀ c ∈ pre, rd v c.f0 = headOf c) → ∀ m, ¬ ParseP v a m := by
  induction pre with
  | nil =>
    intro a fr h hp m hm
    obtain ⟨c0, c1, c2, c3, c4, c5⟩ := h
    cases m with
    | nil => have hm : (v.length : Int) ≤ a := hm; omega
    | cons c m =>
      obtain ⟨m0, m1, m2, m3, _⟩ := hm
      rw [← c0] at m2 m3
      exact hb ⟨m2, m3⟩
  | cons p pre ih =>
    intro a fr h hp m hm
    obtain ⟨c0, c1, c2, c3, c4, c5⟩ := h
    cases m with
    | nil => have hm : (v.length : Int) ≤ a := hm; omega
    | cons c m =>
      obtain ⟨m0, m1, m2, m3, m4, m5, m6⟩ := hm
      have hh := hp p (by simp)
      rw [c0] at hh
      rw [hh, (head_r p).1] at m4
      rw [m4] at m6
      exact ih c5 (fun q hq => hp q (by simp [hq])) m m6
/-- The last header is of a greater block: what is read reaches beyond the end. -/
theorem parse_over {v : List Int} {words : Int} (b : S35) (hb : b.f1 < rd v b.f0 / 2) (hv : (v.length : Int) = words) (pre : List S35) : ∀ {a : Int} {fr : Bool}, ChainP words a fr (pre ++ [b]) → (∀ c ∈ pre, rd v c.f0 = headOf c) → ∀ (m : List S35) (fr2 : Bool), ParseP v a m → ¬ ChainP words a fr2 m := by
  induction pre with
  | nil =>
    intro a fr h hp m fr2 hm hC
    obtain ⟨c0, c1, c2, c3, c4, c5⟩ := h
    have c5 : a + b.f1 = words := c5
    cases m with
    | nil => have hm : (v.length : Int) ≤ a := hm; omega
    | cons c m =>
      obtain ⟨m0, m1, m2, m3, m4, _⟩ := hm
      rw [← c0] at m4
      have := hC.2.2.2.1
      omega
  | cons p pre ih =>
    intro a fr h hp m fr2 hm hC
    obtain ⟨c0, c1, c2, c3, c4, c5⟩ := h
    cases m with
    | nil => have hm : (v.length : Int) ≤ a := hm; omega
    | cons c m =>
      obtain ⟨m0, m1, m2, m3, m4, m5, m6⟩ := hm
      have hh := hp p (by simp)
      rw [c0] at hh
      rw [hh, (head_r p).1] at m4
      obtain ⟨d0, d1, d2, d3, d4, d5⟩ := hC
      rw [m4] at m6 d5
      exact ih c5 (fun q hq => hp q (by simp [hq])) m _ m6 d5
theorem split_at {l : List S35} {j : Int} (h0 : 0 ≤ j) (h1 : j < l.length) : l = l.take j.toNat ++ rd_T35 l j :: l.drop (j.toNat + 1) := by
  obtain ⟨h, e⟩ := rdt_get h0 h1
  rw [e, ← List.drop_eq_getElem_cons h]
  exact (List.take_append_drop _ _).symm
theorem wds_set {v : List Int} {i : Nat} {x : Int} (hv : Wds v) (h0 : 0 ≤ x) (h1 : x ≤ 18446744073709551615) : Wds (v.set i x) := by
  refine ⟨by rw [List.length_set]; exact hv.1, fun j => ?_⟩
  by_cases hi : i < v.length
  · rw [rd_set x j hi]
    by_cases h : j.toNat = i
    · rw [if_pos h]; exact ⟨h0, h1⟩
    · rw [if_neg h]; exact hv.2 j
  · rw [List.set_eq_of_length_le (by omega)]; exact hv.2 j
/-- What stands ahead of a list behind some blocks: a free one? -/
def lastFr : Bool → List S35 → Bool
  | fr, [] => fr
  | _, b :: l => lastFr (!b.f2) l
theorem lastFr_app (P R : List S35) : ∀ fr, lastFr fr (P ++ R) = lastFr (lastFr fr P) R := by
  induction P with
  | nil => intro fr; rfl
  | cons b P ih => intro fr; exact ih _
theorem sumS_app (P R : List S35) : sumS (P ++ R) = sumS P + sumS R := by
  induction P with
  | nil => show sumS R = 0 + sumS R; omega
  | cons b P ih => show b.f1 + sumS (P ++ R) = (b.f1 + sumS P) + sumS R; rw [ih]; omega
theorem chain_snd {words : Int} (P R : List S35) : ∀ {a : Int} {fr : Bool}, ChainP words a fr (P ++ R) → ChainP words (a + sumS P) (lastFr fr P) R := by
  induction P with
  | nil => intro a fr h; show ChainP words (a + 0) fr R; rw [Int.add_zero]; exact h
  | cons b P ih =>
    intro a fr h
    obtain ⟨h0, h1, h2, h3, h4, h5⟩ := h
    have := ih h5
    show ChainP words (a + (b.f1 + sumS P)) (lastFr (!b.f2) P) R
    rw [← Int.add_assoc]; exact this
theorem chain_re {words : Int} (P R R' : List S35) : ∀ {a : Int} {fr : Bool}, ChainP words a fr (P ++ R) → ChainP words (a + sumS P) (lastFr fr P) R' → ChainP words a fr (P ++ R') := by
  induction P with
  | nil => intro a fr _ h; have h : ChainP words (a + 0) fr R' := h; rw [Int.add_zero] at h; exact h
  | cons b P ih =>
    intro a fr h h'
    obtain ⟨h0, h1, h2, h3, h4, h5⟩ := h
    have h' : ChainP words (a + (b.f1 + sumS P)) (lastFr (!b.f2) P) R' := h'
    rw [← Int.add_assoc] at h'
    exact ⟨h0, h1, h2, h3, h4, ih h5 h'⟩
theorem chain_fr {words : Int} {Q : List S35} {a : Int} {fr : Bool} (fr2 : Bool) (h : ChainP words a fr Q) (hq : ∀ q Q', Q = q :: Q' → q.f2 = true) : ChainP words a fr2 Q := by
  cases Q with
  | nil => exact h
  | cons q Q =>
    obtain ⟨h0, h1, h2, h3, h4, h5⟩ := h
    exact ⟨h0, h1, h2, h3, fun _ => hq q Q rfl, h5⟩
theorem sumS_nn {words : Int} (P R : List S35) {a : Int} {fr : Bool} (h : ChainP words a fr (P ++ R)) : 2 * (P.length : Int) ≤ sumS P ∧ a + sumS P + 2 * R.length ≤ words := by
  constructor
  · have : ∀ b ∈ P, 2 ≤ b.f1 := fun b hb => (chain_mem h b (List.mem_append_left _ hb)).2.1
    clear h
    induction P with
    | nil => show 2 * ((0 : Nat) : Int) ≤ 0; omega
    | cons b P ih =>
      have h1 := ih (fun c hc => this c (List.mem_cons_of_mem _ hc))
      have h2 := this b List.mem_cons_self
      show 2 * (((P.length + 1 : Nat)) : Int) ≤ b.f1 + sumS P
      omega
  · exact chain_len (chain_snd P R h)
/-- Some blocks in the midst made one free one. -/
theorem chain_join {words : Int} {P M Q : List S35} {x : S35} {a : Int} {fr : Bool} (hw : words ≤ 512) (ha : 0 ≤ a) (h : ChainP words a fr (P ++ (x :: M) ++ Q)) (hp : lastFr fr P = false)
    (hq : ∀ q Q', Q = q :: Q' → q.f2 = true) : x.f0 = a + sumS P ∧ ChainP words a fr (P ++ (⟨x.f0, sumS (x :: M), false⟩ : S35) :: Q) := by
  rw [List.append_assoc] at h
  have h1 := chain_snd P _ h
  rw [hp] at h1
  have n1 := sumS_nn P _ h
  have n2 := sumS_nn (x :: M) Q h1
  have e0 : x.f0 = a + sumS P := h1.1
  refine ⟨e0, chain_re P _ _ h ?_⟩
  rw [hp]
  simp only [List.length_cons] at n2
  refine ⟨e0, by show 2 ≤ sumS (x :: M); omega, by show sumS (x :: M) ≤ 512; omega, by show sumS (x :: M) ≤ words - (a + sumS P); omega, (fun hf => nomatch hf), ?_⟩
  exact chain_fr true (chain_snd (x :: M) Q h1) hq
/-- The blocks may be, of as many words as they have. -/
def IsB (l : List S35) : Prop := MayB l (sumS l)
theorem isb_of {l : List S35} {w : Int} (h : MayB l w) : w = sumS l := by have := chain_total l h.2; omega
theorem mayb0 (l : List S35) : ¬ MayB l 0 := by
  intro h
  have := h.1
  unfold MayW at this
  omega
-- sums of sizes, as the program and the reference count them
theorem mwords_l0 (l : List S35) (hl : l.length ≤ 100000) (suf : List S35) : ∀ pre : List S35, l = pre ++ suf → (∀ b ∈ pre, 2 ≤ b.f1 ∧ b.f1 ≤ 512) → 0 ≤ sumS pre → sumS pre ≤ 1024 →
    ∃ t, Ev (fun k => merge_words.l0 k (sumS pre) l (l.length : Int) (pre.length : Int)) t ∧ ((∃ w, MayB l w) → t = sumS l) ∧ (t = sumS l ∨ t = 0) ∧ ((∀ b ∈ l, 2 ≤ b.f1 ∧ b.f1 ≤ 512) → sumS l ≤ 512 → t = sumS l) := by
  induction suf with
  | nil =>
    intro pre e hp h0 h1
    rw [List.append_nil] at e
    subst e
    exact ⟨sumS l, Ev.step (fun k => by rw [merge_words.l0]) (ev_neg (by simp) (Ev.now _)), fun _ => rfl, .inl rfl, fun _ _ => rfl⟩
  | cons x suf ih =>
    intro pre e hp h0 h1
    have hlt : (pre.length : Int) < (l.length : Int) := by rw [e]; simp; omega
    have ex : rd_T35 l (pre.length : Int) = x := by rw [e]; exact rdt_mid pre suf x
    by_cases c1 : 2 ≤ x.f1 ∧ x.f1 ≤ 512
    · by_cases c2 : sumS pre > 512
      · have big : (∀ b ∈ l, 2 ≤ b.f1 ∧ b.f1 ≤ 512) → ¬ sumS l ≤ 512 := by
          intro hb hs
          rw [e, sumS_app] at hs
          have : ∀ m : List S35, (∀ b ∈ m, 2 ≤ b.f1 ∧ b.f1 ≤ 512) → 0 ≤ sumS m := by
            intro m
            induction m with
            | nil => intro _; exact Int.le_refl _
            | cons c m ihm => intro hc; have q1 := hc c List.mem_cons_self; have q2 := ihm (fun d hd => hc d (List.mem_cons_of_mem _ hd)); show 0 ≤ c.f1 + sumS m; omega
          have q := this (x :: suf) (fun b hb' => hb b (by rw [e]; exact List.mem_append_right _ hb'))
          omega
        refine ⟨0, Ev.step (fun k => by rw [merge_words.l0]) ?_, fun ⟨w, hw⟩ => ?_, .inr rfl, fun hb hs => absurd hs (big hb)⟩
        · rw [ex]
          exact ev_pos hlt (ev_pos (by omega) (ev_pos hlt (ev_bindc (bmay_eq _) (ev_pos (by simp [c1]) (ev_pos c2 (Ev.now _))))))
        · have ht := chain_total l hw.2
          have hw1 := hw.1
          unfold MayW at hw1
          exact absurd (by omega : sumS l ≤ 512) (big (fun b hb => ⟨(chain_mem hw.2 b hb).2.1, (chain_mem hw.2 b hb).2.2.1⟩))
      · obtain ⟨t, ht, hi⟩ := ih (pre ++ [x]) (by rw [e]; simp) (by
          intro b hb
          rcases List.mem_append.1 hb with hb | hb
          · exact hp b hb
          · rw [List.mem_singleton.1 hb]; exact c1) (by rw [sumS_app]; show 0 ≤ sumS pre + (x.f1 + 0); omega) (by rw [sumS_app]; show sumS pre + (x.f1 + 0) ≤ 1024; omega)
        have es : sumS (pre ++ [x]) = sumS pre + x.f1 := by rw [sumS_app]; show sumS pre + (x.f1 + 0) = _; omega
        refine ⟨t, Ev.step (fun k => by rw [merge_words.l0]) ?_, hi⟩
        rw [ex, w64 (n := sumS pre + x.f1) (by omega), w64 (n := (pre.length : Int) + 1) (by omega)]
        refine ev_pos hlt (ev_pos (by omega) (ev_pos hlt (ev_bindc (bmay_eq _) (ev_pos (by simp [c1]) (ev_neg c2 ?_)))))
        rw [es] at ht
        simpa using ht
    · refine ⟨0, Ev.step (fun k => by rw [merge_words.l0]) ?_, fun ⟨w, hw⟩ => ?_, .inr rfl, fun hb _ => absurd (hb x (by rw [e]; simp)) c1⟩
      · rw [ex]
        exact ev_pos hlt (ev_pos (by omega) (ev_pos hlt (ev_bindc (bmay_eq _) (ev_neg (by simp; omega) (Ev.now _)))))
      · have := chain_mem hw.2 x (by rw [e]; simp)
        omega
theorem mwords_ev {l : List S35} (hl : l.length ≤ 100000) : ∃ t, Ev (fun k => merge_words.f k l) t ∧ ((∃ w, MayB l w) → t = sumS l) ∧ (t = sumS l ∨ t = 0) ∧ ((∀ b ∈ l, 2 ≤ b.f1 ∧ b.f1 ≤ 512) → sumS l ≤ 512 → t = sumS l) :=
  mwords_l0 l hl l [] rfl (fun b hb => nomatch hb) (Int.le_refl _) (by show (0 : Int) ≤ 1024; omega)
theorem mwords_sum {l : List S35} (hl : l.length ≤ 100000) (h : ∀ b ∈ l, 2 ≤ b.f1 ∧ b.f1 ≤ 512) (hs : sumS l ≤ 512) : Ev (fun k => merge_words.f k l) (sumS l) := by
  obtain ⟨t, ht, _, _, h3⟩ := mwords_ev hl
  rwa [h3 h hs] at ht
-- slices.Concat of three
theorem grow_eq {n : Int} (h0 : 0 ≤ n) (h1 : n ≤ 1000000) : api_Block_81.f n = some [] := by
  unfold api_Block_81.f
  rw [w64 (by omega), if_neg (by omega)]
  by_cases c : n > 0
  · rw [if_pos c, if_pos h0, if_pos (by simp only [List.length_nil]; omega), Option.bind_some, if_pos (Int.natCast_nonneg _)]
    simp
  · rw [if_neg c]
theorem concat_ev (a b c : List S35) (h : a.length + b.length + c.length ≤ 100000) : Ev (fun k => api_Block_59.f k [a, b, c]) (a ++ b ++ c) := by
  unfold api_Block_59.f
  have L : (([a, b, c] : List (List S35)).length : Int) = 3 := rfl
  have r0 : rd_L3 [a, b, c] 0 = a := rfl
  have r1 : rd_L3 [a, b, c] 1 = b := rfl
  have r2 : rd_L3 [a, b, c] 2 = c := rfl
  rw [L]
  have w1 : wrap64 ((0 : Int) + 1) = 1 := w64 (by decide)
  have w2 : wrap64 ((1 : Int) + 1) = 2 := w64 (by decide)
  have w3 : wrap64 ((2 : Int) + 1) = 3 := w64 (by decide)
  have hl : (([a, b, c] : List (List S35)).length : Int) = 3 := rfl
  refine Ev.step (fun k => by rw [api_Block_59.l0]) ?_
  rw [r0, w1, hl, w64 (n := (0 : Int) + (a.length : Int)) (by omega)]
  refine ev_pos (by decide) (ev_pos (by decide) (ev_pos (by decide) (ev_neg (by omega) ?_)))
  refine Ev.step (fun k => by rw [api_Block_59.l0]) ?_
  rw [r1, w2, hl, w64 (n := (0 : Int) + (a.length : Int) + (b.length : Int)) (by omega)]
  refine ev_pos (by decide) (ev_pos (by decide) (ev_pos (by decide) (ev_neg (by omega) ?_)))
  refine Ev.step (fun k => by rw [api_Block_59.l0]) ?_
  rw [r2, w3, hl, w64 (n := (0 : Int) + (a.length : Int) + (b.length : Int) + (c.length : Int)) (by omega)]
  refine ev_pos (by decide) (ev_pos (by decide) (ev_pos (by decide) (ev_neg (by omega) ?_)))
  refine Ev.step (fun k => by rw [api_Block_59.l0]) ?_
  refine ev_neg (by decide) (ev_bindc (grow_eq (by omega) (by omega)) ?_)
  rw [hl]
  refine Ev.step (fun k => by rw [api_Block_59.l1]) ?_
  rw [r0, w1, hl]
  refine ev_pos (by decide) (ev_pos (by decide) (ev_pos (by decide) (ev_pos (by simp only [List.length_nil]; omega) ?_)))
  refine Ev.step (fun k => by rw [api_Block_59.l1]) ?_
  rw [r1, w2, hl, List.nil_append]
  refine ev_pos (by decide) (ev_pos (by decide) (ev_pos (by decide) (ev_pos (by omega) ?_)))
  refine Ev.step (fun k => by rw [api_Block_59.l1]) ?_
  rw [r2, w3, hl]
  refine ev_pos (by decide) (ev_pos (by decide) (ev_pos (by decide) (ev_pos (by rw [List.length_append]; omega) ?_)))
  refine Ev.step (fun k => by rw [api_Block_59.l1]) ?_
  exact ev_neg (by decide) (Ev.now _)
-- which blocks become one
def mFrom (l : List S35) (i : Int) : Int := if i > 0 ∧ (rd_T35 l (i - 1)).f2 = false then i - 1 else i
def mTo (l : List S35) (i : Int) : Int := if i + 1 < l.length ∧ (rd_T35 l (i + 1)).f2 = false then i + 2 else i + 1
def Can (l : List S35) (i : Int) : Prop := IsB l ∧ 0 ≤ i ∧ i < l.length ∧ (rd_T35 l i).f2 = true
theorem around_yes {l : List S35} {i : Int} (hl : l.length ≤ 100000) (h : Can l i) : Ev (fun k => merge_around.f k l i) (mFrom l i, mTo l i, true) := by
  obtain ⟨h1, h2, h3, h4⟩ := h
  unfold merge_around.f
  obtain ⟨t, ht, hi, _⟩ := mwords_ev hl
  rw [hi ⟨_, h1⟩] at ht
  refine ev_bind ht (ev_bind (cmay_yes hl h1) (ev_pos rfl (ev_neg (by omega) (ev_neg (by omega) (ev_pos h2 (ev_pos h3 ?_))))))
  rw [h4]
  refine Ev.step (fun k => by rw [merge_around.j0]) ?_
  refine ev_neg (by decide) ?_
  rw [w64 (n := i - 1) (by omega), w64 (n := i + 1) (by omega)]
  have go : ∀ b : Bool, (b = true ↔ (i > 0 ∧ (rd_T35 l (i - 1)).f2 = false)) → Ev (fun k => merge_around.j1 k l i (i + 1) b) (mFrom l i, mTo l i, true) := by
    intro b hb
    refine Ev.step (fun k => by rw [merge_around.j1]) ?_
    rw [w64 (n := i - 1) (by omega), w64 (n := i + 1 + 1) (by omega)]
    unfold mFrom mTo
    refine ev_ite (fun c => ?_) (fun c => ?_)
    · rw [if_pos (hb.1 c)]
      refine ev_ite (fun d => ev_pos (by omega) (ev_ite (fun e => ?_) (fun e => ?_))) (fun d => ?_)
      · rw [if_neg (by simp [e])]; exact Ev.now _
      · rw [if_pos ⟨d, by simpa using e⟩, show i + 1 + 1 = i + 2 from by omega]; exact Ev.now _
      · rw [if_neg (fun hh => d hh.1)]; exact Ev.now _
    · rw [if_neg (fun hh => c (hb.2 hh))]
      refine ev_ite (fun d => ev_pos (by omega) (ev_ite (fun e => ?_) (fun e => ?_))) (fun d => ?_)
      · rw [if_neg (by simp [e])]; exact Ev.now _
      · rw [if_pos ⟨d, by simpa using e⟩, show i + 1 + 1 = i + 2 from by omega]; exact Ev.now _
      · rw [if_neg (fun hh => d hh.1)]; exact Ev.now _
  refine ev_ite (fun c => ev_pos (by omega) (ev_pos (by omega) (go _ ?_))) (fun c => go _ ?_)
  · simp [c]
  · simp [c]
theorem around_no {l : List S35} {i : Int} (hl : l.length ≤ 100000) (h : ¬ Can l i) : Ev (fun k => merge_around.f k l i) (0, 0, false) := by
  unfold merge_around.f
  obtain ⟨t, ht, hi, ho, _⟩ := mwords_ev hl
  have out : Ev (fun k => merge_around.j0 k l i true) (0, 0, false) := by
    refine Ev.step (fun k => by rw [merge_around.j0]) ?_
    exact ev_pos rfl (Ev.now _)
  refine ev_bind ht ?_
  by_cases hm : MayB l t
  · have e : t = sumS l := isb_of hm
    refine ev_bind (cmay_yes hl hm) (ev_pos rfl (ev_ite (fun _ => out) (fun c1 => ev_ite (fun _ => out) (fun c2 => ev_pos (by omega) (ev_pos (by omega) ?_)))))
    have : (rd_T35 l i).f2 = false := by
      cases hu : (rd_T35 l i).f2 with
      | false => rfl
      | true => exact absurd ⟨by unfold IsB; rw [← e]; exact hm, by omega, by omega, hu⟩ h
    rw [this]; exact out
  · exact ev_bind (cmay_no hl hm) (ev_neg (by decide) out)
theorem from_to {l : List S35} {i : Int} (h : 0 ≤ i ∧ i < l.length) : 0 ≤ mFrom l i ∧ mFrom l i ≤ i ∧ i < mTo l i ∧ mTo l i ≤ l.length := by
  unfold mFrom mTo
  refine ⟨?_, ?_, ?_, ?_⟩
  · split <;> omega
  · split <;> omega
  · split <;> omega
  · split <;> omega
def mP (l : List S35) (i : Int) : List S35 := l.take (mFrom l i).toNat
def mM (l : List S35) (i : Int) : List S35 := (l.take (mTo l i).toNat).drop (mFrom l i).toNat
def mQ (l : List S35) (i : Int) : List S35 := l.drop (mTo l i).toNat
theorem m_split {l : List S35} {i : Int} (h : 0 ≤ i ∧ i < l.length) : l = mP l i ++ mM l i ++ mQ l i := by
  have hf := from_to h
  unfold mP mM mQ
  rw [show l.take (mFrom l i).toNat = (l.take (mTo l i).toNat).take (mFrom l i).toNat from by rw [List.take_take, Nat.min_eq_left (by omega)], List.take_append_drop, List.take_append_drop]
def mrg (l : List S35) (i : Int) : List S35 := mP l i ++ [⟨(rd_T35 l (mFrom l i)).f0, sumS (mM l i), false⟩] ++ mQ l i
theorem mM_good {l : List S35} {i : Int} (h : IsB l) (hi : 0 ≤ i ∧ i < l.length) : (∀ b ∈ mM l i, 2 ≤ b.f1 ∧ b.f1 ≤ 512) ∧ sumS (mM l i) ≤ 512 := by
  have e := m_split hi
  have hc := h.2
  have hw := h.1
  unfold MayW at hw
  constructor
  · intro b hb
    have := chain_mem hc b (by rw [e]; exact List.mem_append_left _ (List.mem_append_right _ hb))
    omega
  · generalize hs : sumS l = w at hc hw
    rw [e, List.append_assoc] at hc
    have n1 := sumS_nn _ _ hc
    have n2 := sumS_nn _ _ (chain_snd _ _ hc)
    omega
theorem mM_len {l : List S35} {i : Int} (hi : 0 ≤ i ∧ i < l.length) : (mM l i).length ≤ 3 := by
  unfold mM
  rw [List.length_drop, List.length_take]
  unfold mFrom mTo
  split <;> split <;> omega
theorem mblocks_yes {l : List S35} {i : Int} (hl : l.length ≤ 1000) (h : Can l i) : Ev (fun k => merge_Blocks.f k l i) (mrg l i, true) := by
  have hi : 0 ≤ i ∧ i < l.length := ⟨h.2.1, h.2.2.1⟩
  have ft := from_to hi
  have g := mM_good h.1 hi
  have n := mM_len hi
  unfold merge_Blocks.f
  refine ev_bind (around_yes (by omega) h) (ev_pos rfl (ev_pos ft.1 (ev_pos (by show mFrom l i < _; omega) (ev_pos (by show mFrom l i ≤ mTo l i; omega) (ev_pos ft.2.2.2 ?_)))))
  refine ev_bind (mwords_sum (l := mM l i) (by omega) g.1 g.2) (ev_pos (by show mFrom l i ≤ _; omega) (ev_pos (by show 0 ≤ mTo l i; omega) ?_))
  refine ev_bind (concat_ev (mP l i) [⟨(rd_T35 l (mFrom l i)).f0, sumS (mM l i), false⟩] (mQ l i) ?_) (Ev.now _)
  unfold mP mQ
  rw [List.length_take, List.length_drop]
  simp only [List.length_cons, List.length_nil]
  omega
theorem mblocks_no {l : List S35} {i : Int} (hl : l.length ≤ 1000) (h : ¬ Can l i) : Ev (fun k => merge_Blocks.f k l i) ([], false) := by
  unfold merge_Blocks.f
  exact ev_bind (around_no (by omega) h) (ev_neg (by decide) (Ev.now _))
def hWord (n : Int) (u : Bool) : Int := if 2 ≤ n ∧ n ≤ 512 then 2 * n + (if u then 1 else 0) else 0
theorem medit_yes {l : List S35} {i : Int} (hl : l.length ≤ 1000) (h : Can l i) : Ev (fun k => merge_Edit.f k l i) ((rd_T35 l (mFrom l i)).f0, hWord (sumS (mM l i)) false, true) := by
  have hi : 0 ≤ i ∧ i < l.length := ⟨h.2.1, h.2.2.1⟩
  have ft := from_to hi
  have g := mM_good h.1 hi
  have n := mM_len hi
  unfold merge_Edit.f
  refine ev_bind (around_yes (by omega) h) (ev_pos rfl (ev_pos ft.1 (ev_pos (by show mFrom l i < _; omega) (ev_pos (by show mFrom l i ≤ mTo l i; omega) (ev_pos ft.2.2.2 ?_)))))
  exact ev_bind (mwords_sum (l := mM l i) (by omega) g.1 g.2) (ev_bindc (word_eq _ _) (Ev.now _))
theorem medit_no {l : List S35} {i : Int} (hl : l.length ≤ 1000) (h : ¬ Can l i) : Ev (fun k => merge_Edit.f k l i) (0, 0, false) := by
  unfold merge_Edit.f
  exact ev_bind (around_no (by omega) h) (ev_neg (by decide) (Ev.now _))
theorem rdt_drop {l : List S35} {n : Int} {q : S35} {Q : List S35} (_h0 : 0 ≤ n) (h : l.drop n.toNat = q :: Q) : rd_T35 l n = q ∧ n < l.length := by
  have h1 := congrArg List.head? h
  rw [List.head?_drop, List.head?_cons] at h1
  have h2 : n.toNat < l.length := by
    rcases Nat.lt_or_ge n.toNat l.length with h | h
    · exact h
    · rw [List.getElem?_eq_none h] at h1; cases h1
  refine ⟨?_, by omega⟩
  unfold rd_T35
  rw [List.getD_eq_getElem?_getD, h1]
  rfl
theorem chain_alt {l : List S35} {words j : Int} (h : ChainP words 0 false l) (h0 : 0 ≤ j) (h1 : j + 1 < l.length) (hf : (rd_T35 l j).f2 = false) : (rd_T35 l (j + 1)).f2 = true := by
  obtain ⟨pre, x, y, suf, hl, hp⟩ := split_two h0 h1
  rw [hl] at h
  have hs := chain_snd pre _ h
  have ex : rd_T35 l j = x := by rw [hl, ← hp]; exact rdt_mid pre _ x
  have ey : rd_T35 l (j + 1) = y := by
    rw [hl, ← hp, show pre ++ x :: y :: suf = (pre ++ [x]) ++ y :: suf from by simp, show (pre.length : Int) + 1 = ((pre ++ [x]).length : Int) from by simp]
    exact rdt_mid _ suf y
  rw [ex] at hf
  rw [ey]
  exact hs.2.2.2.2.2.2.2.2.2.1 (by rw [hf]; rfl)
theorem lastFr_take {l : List S35} {j : Int} (h0 : 0 ≤ j) (h1 : j < l.length) (fr : Bool) : lastFr fr (l.take (j + 1).toNat) = !(rd_T35 l j).f2 := by
  have e : l.take (j + 1).toNat = l.take j.toNat ++ [rd_T35 l j] := by
    obtain ⟨h, er⟩ := rdt_get h0 h1
    rw [er, show (j + 1).toNat = j.toNat + 1 from by omega, List.take_add_one, List.getElem?_eq_getElem h]
    rfl
  rw [e, lastFr_app]
  rfl
theorem m_parts {l : List S35} {i words : Int} (h : MayB l words) (hi : 0 ≤ i ∧ i < l.length) (_hu : (rd_T35 l i).f2 = true) :
    lastFr false (mP l i) = false ∧ (∃ M, mM l i = rd_T35 l (mFrom l i) :: M) ∧ (∀ q Q', mQ l i = q :: Q' → q.f2 = true) := by
  have ft := from_to hi
  refine ⟨?_, ?_, ?_⟩
  · unfold mP
    by_cases hz : mFrom l i = 0
    · rw [hz]; rfl
    · have e := lastFr_take (l := l) (j := mFrom l i - 1) (by omega) (by omega) false
      rw [show mFrom l i - 1 + 1 = mFrom l i from by omega] at e
      rw [e]
      have : (rd_T35 l (mFrom l i - 1)).f2 = true := by
        by_cases c : i > 0 ∧ (rd_T35 l (i - 1)).f2 = false
        · have ef : mFrom l i = i - 1 := by unfold mFrom; rw [if_pos c]
          rw [ef] at hz ⊢
          cases hb : (rd_T35 l (i - 1 - 1)).f2 with
          | true => rfl
          | false =>
            have := chain_alt h.2 (j := i - 1 - 1) (by omega) (by omega) hb
            rw [show i - 1 - 1 + 1 = i - 1 from by omega, c.2] at this
            cases this
        · have ef : mFrom l i = i := by unfold mFrom; rw [if_neg c]
          rw [ef] at hz ⊢
          cases hb : (rd_T35 l (i - 1)).f2 with
          | true => rfl
          | false => exact absurd ⟨by omega, hb⟩ c
      rw [this]; rfl
  · unfold mM
    have hlen : ((l.take (mTo l i).toNat).drop (mFrom l i).toNat).length ≠ 0 := by
      rw [List.length_drop, List.length_take]; omega
    cases hM : (l.take (mTo l i).toNat).drop (mFrom l i).toNat with
    | nil => rw [hM] at hlen; exact absurd rfl hlen
    | cons x M =>
      refine ⟨M, ?_⟩
      have := (rdt_drop ft.1 hM).1
      have e2 : rd_T35 (l.take (mTo l i).toNat) (mFrom l i) = rd_T35 l (mFrom l i) := by
        unfold rd_T35
        rw [List.getD_eq_getElem?_getD, List.getD_eq_getElem?_getD, List.getElem?_take_of_lt (by omega)]
      rw [← this, e2]
  · intro q Q' hq
    unfold mQ at hq
    obtain ⟨e, hlt⟩ := rdt_drop (by omega) hq
    rw [← e]
    by_cases c : i + 1 < l.length ∧ (rd_T35 l (i + 1)).f2 = false
    · have et : mTo l i = i + 2 := by unfold mTo; rw [if_pos c]
      rw [et] at hlt ⊢
      have := chain_alt h.2 (j := i + 1) (by omega) (by omega) c.2
      rwa [show i + 1 + 1 = i + 2 from by omega] at this
    · have et : mTo l i = i + 1 := by unfold mTo; rw [if_neg c]
      rw [et] at hlt ⊢
      cases hb : (rd_T35 l (i + 1)).f2 with
      | true => rfl
      | false => exact absurd ⟨hlt, hb⟩ c
theorem mrg_may {l : List S35} {i words : Int} (h : MayB l words) (hi : 0 ≤ i ∧ i < l.length) (hu : (rd_T35 l i).f2 = true) : MayB (mrg l i) words := by
  obtain ⟨hp, ⟨M, hM⟩, hq⟩ := m_parts h hi hu
  have hw := h.1
  have hc := h.2
  unfold MayW at hw
  rw [m_split hi, hM] at hc
  have := (chain_join (by omega) (Int.le_refl _) hc hp hq).2
  refine ⟨h.1, ?_⟩
  unfold mrg
  rw [List.append_assoc, hM]
  exact this
theorem can_of {l : List S35} {i words : Int} (h : MayB l words) (hi : 0 ≤ i ∧ i < l.length) (hu : (rd_T35 l i).f2 = true) : Can l i := by
  refine ⟨?_, hi.1, hi.2, hu⟩
  unfold IsB
  rw [← isb_of h]
  exact h
-- sums of sizes, as the program and the reference count them
theorem cwords_l0 (l : List S35) (hl : l.length ≤ 100000) (suf : List S35) : ∀ pre : List S35, l = pre ++ suf → (∀ b ∈ pre, 2 ≤ b.f1 ∧ b.f1 ≤ 512) → 0 ≤ sumS pre → sumS pre ≤ 1024 →
    ∃ t, Ev (fun k => carve_words.l0 k (sumS pre) l (l.length : Int) (pre.length : Int)) t ∧ ((∃ w, MayB l w) → t = sumS l) ∧ (t = sumS l ∨ t = 0) ∧ ((∀ b ∈ l, 2 ≤ b.f1 ∧ b.f1 ≤ 512) → sumS l ≤ 512 → t = sumS l) := by
  induction suf with
  | nil =>
    intro pre e hp h0 h1
    rw [List.append_nil] at e
    subst e
    exact ⟨sumS l, Ev.step (fun k => by rw [carve_words.l0]) (ev_neg (by simp) (Ev.now _)), fun _ => rfl, .inl rfl, fun _ _ => rfl⟩
  | cons x suf ih =>
    intro pre e hp h0 h1
    have hlt : (pre.length : Int) < (l.length : Int) := by rw [e]; simp; omega
    have ex : rd_T35 l (pre.length : Int) = x := by rw [e]; exact rdt_mid pre suf x
    by_cases c1 : 2 ≤ x.f1 ∧ x.f1 ≤ 512
    · by_cases c2 : sumS pre > 512
      · have big : (∀ b ∈ l, 2 ≤ b.f1 ∧ b.f1 ≤ 512) → ¬ sumS l ≤ 512 := by
          intro hb hs
          rw [e, sumS_app] at hs
          have : ∀ m : List S35, (∀ b ∈ m, 2 ≤ b.f1 ∧ b.f1 ≤ 512) → 0 ≤ sumS m := by
            intro m
            induction m with
            | nil => intro _; exact Int.le_refl _
            | cons c m ihm => intro hc; have q1 := hc c List.mem_cons_self; have q2 := ihm (fun d hd => hc d (List.mem_cons_of_mem _ hd)); show 0 ≤ c.f1 + sumS m; omega
          have q := this (x :: suf) (fun b hb' => hb b (by rw [e]; exact List.mem_append_right _ hb'))
          omega
        refine ⟨0, Ev.step (fun k => by rw [carve_words.l0]) ?_, fun ⟨w, hw⟩ => ?_, .inr rfl, fun hb hs => absurd hs (big hb)⟩
        · rw [ex]
          exact ev_pos hlt (ev_pos (by omega) (ev_pos hlt (ev_bindc (bmay_eq _) (ev_pos (by simp [c1]) (ev_pos c2 (Ev.now _))))))
        · have ht := chain_total l hw.2
          have hw1 := hw.1
          unfold MayW at hw1
          exact absurd (by omega : sumS l ≤ 512) (big (fun b hb => ⟨(chain_mem hw.2 b hb).2.1, (chain_mem hw.2 b hb).2.2.1⟩))
      · obtain ⟨t, ht, hi⟩ := ih (pre ++ [x]) (by rw [e]; simp) (by
          intro b hb
          rcases List.mem_append.1 hb with hb | hb
          · exact hp b hb
          · rw [List.mem_singleton.1 hb]; exact c1) (by rw [sumS_app]; show 0 ≤ sumS pre + (x.f1 + 0); omega) (by rw [sumS_app]; show sumS pre + (x.f1 + 0) ≤ 1024; omega)
        have es : sumS (pre ++ [x]) = sumS pre + x.f1 := by rw [sumS_app]; show sumS pre + (x.f1 + 0) = _; omega
        refine ⟨t, Ev.step (fun k => by rw [carve_words.l0]) ?_, hi⟩
        rw [ex, w64 (n := sumS pre + x.f1) (by omega), w64 (n := (pre.length : Int) + 1) (by omega)]
        refine ev_pos hlt (ev_pos (by omega) (ev_pos hlt (ev_bindc (bmay_eq _) (ev_pos (by simp [c1]) (ev_neg c2 ?_)))))
        rw [es] at ht
        simpa using ht
    · refine ⟨0, Ev.step (fun k => by rw [carve_words.l0]) ?_, fun ⟨w, hw⟩ => ?_, .inr rfl, fun hb _ => absurd (hb x (by rw [e]; simp)) c1⟩
      · rw [ex]
        exact ev_pos hlt (ev_pos (by omega) (ev_pos hlt (ev_bindc (bmay_eq _) (ev_neg (by simp; omega) (Ev.now _)))))
      · have := chain_mem hw.2 x (by rw [e]; simp)
        omega
theorem cwords_ev {l : List S35} (hl : l.length ≤ 100000) : ∃ t, Ev (fun k => carve_words.f k l) t ∧ ((∃ w, MayB l w) → t = sumS l) ∧ (t = sumS l ∨ t = 0) ∧ ((∀ b ∈ l, 2 ≤ b.f1 ∧ b.f1 ≤ 512) → sumS l ≤ 512 → t = sumS l) :=
  cwords_l0 l hl l [] rfl (fun b hb => nomatch hb) (Int.le_refl _) (by show (0 : Int) ≤ 1024; omega)
theorem cwords_sum {l : List S35} (hl : l.length ≤ 100000) (h : ∀ b ∈ l, 2 ≤ b.f1 ∧ b.f1 ≤ 512) (hs : sumS l ≤ 512) : Ev (fun k => carve_words.f k l) (sumS l) := by
  obtain ⟨t, ht, _, _, h3⟩ := cwords_ev hl
  rwa [h3 h hs] at ht
/-- What is taken of a free block of s words. -/
def tk (s need : Int) : Int := if need < 2 ∨ need > s then 0 else if s - need < 2 then s else need
theorem takes_ev {s n : Int} (hs : 2 ≤ s ∧ s ≤ 512) : Ev (fun k => fit_Takes.f k s n) (tk s n) := by
  unfold fit_Takes.f tk
  by_cases c : n < 2
  · rw [if_pos (.inl c)]
    refine ev_pos c (Ev.step (fun k => by rw [fit_Takes.j0]) (ev_pos rfl (Ev.now _)))
  · refine ev_neg c ?_
    by_cases d : n > s
    · rw [if_pos (.inr d), decide_eq_true d]
      exact Ev.step (fun k => by rw [fit_Takes.j0]) (ev_pos rfl (Ev.now _))
    · rw [if_neg (by omega), decide_eq_false d]
      refine Ev.step (fun k => by rw [fit_Takes.j0]) (ev_neg (by decide) ?_)
      rw [w64 (n := s - n) (by omega)]
      refine ev_ite (fun e => ?_) (fun e => ?_)
      · rw [if_pos e]; exact Ev.now _
      · rw [if_neg e]; exact Ev.now _
theorem tk_r {s n : Int} (h : tk s n ≠ 0) (hs : 2 ≤ s) : 2 ≤ tk s n ∧ tk s n ≤ s ∧ (tk s n < s → 2 ≤ s - tk s n) ∧ 2 ≤ n ∧ n ≤ tk s n := by
  unfold tk at h ⊢
  split at h
  · exact absurd rfl h
  · rename_i c
    rw [if_neg c]
    split <;> omega
theorem tk_zero {s n : Int} (hs : 2 ≤ s) : tk s n = 0 ↔ (n < 2 ∨ n > s) := by
  unfold tk
  split
  · rename_i c; exact ⟨fun _ => c, fun _ => rfl⟩
  · rename_i c
    split
    · exact ⟨fun h => by omega, fun h => absurd h c⟩
    · exact ⟨fun h => by omega, fun h => absurd h c⟩
def CanC (l : List S35) (i need : Int) : Prop := IsB l ∧ 0 ≤ i ∧ i < l.length ∧ (rd_T35 l i).f2 = false ∧ tk (rd_T35 l i).f1 need ≠ 0
def tkn (b : S35) (need : Int) : List S35 := ⟨b.f0, tk b.f1 need, true⟩ :: (if tk b.f1 need < b.f1 then [⟨b.f0 + tk b.f1 need, b.f1 - tk b.f1 need, false⟩] else [])
def crv (l : List S35) (i need : Int) : List S35 := l.take i.toNat ++ tkn (rd_T35 l i) need ++ l.drop (i.toNat + 1)
theorem isb_rd {l : List S35} {i : Int} (h : IsB l) (h0 : 0 ≤ i) (h1 : i < l.length) : 0 ≤ (rd_T35 l i).f0 ∧ 2 ≤ (rd_T35 l i).f1 ∧ (rd_T35 l i).f1 ≤ 512 ∧ (rd_T35 l i).f0 + (rd_T35 l i).f1 ≤ 512 := by
  have := chain_rd h.2 h0 h1
  have hw := h.1
  unfold MayW at hw
  omega
theorem taken_yes {l : List S35} {i need : Int} (hl : l.length ≤ 100000) (h : CanC l i need) : Ev (fun k => carve_taken.f k l i need) (tkn (rd_T35 l i) need) := by
  obtain ⟨h1, h2, h3, h4, h5⟩ := h
  have hr := isb_rd h1 h2 h3
  have ht := tk_r h5 hr.2.1
  unfold carve_taken.f
  obtain ⟨t, hw, hi, _⟩ := cwords_ev hl
  rw [hi ⟨_, h1⟩] at hw
  refine ev_bind hw (ev_bind (cmay_yes hl h1) (ev_pos rfl (ev_neg (by omega) (ev_neg (by omega) (ev_pos h2 (ev_pos h3 ?_))))))
  rw [h4]
  refine Ev.step (fun k => by rw [carve_taken.j0]) ?_
  refine ev_neg (by decide) (ev_pos h2 (ev_pos h3 (ev_bind (takes_ev ⟨by omega, by omega⟩) (ev_neg h5 (ev_bindc rfl ?_)))))
  rw [w64 (n := (rd_T35 l i).f0 + tk (rd_T35 l i).f1 need) (by omega), w64 (n := (rd_T35 l i).f1 - tk (rd_T35 l i).f1 need) (by omega)]
  unfold tkn
  refine ev_ite (fun c => ev_pos (by simp) ?_) (fun c => ?_)
  · rw [if_pos c]; exact Ev.now _
  · rw [if_neg c]; exact Ev.now _
theorem taken_no {l : List S35} {i need : Int} (hl : l.length ≤ 100000) (h : ¬ CanC l i need) : Ev (fun k => carve_taken.f k l i need) [] := by
  unfold carve_taken.f
  obtain ⟨t, ht, hi, ho, _⟩ := cwords_ev hl
  have out : Ev (fun k => carve_taken.j0 k l i need true) [] := by
    refine Ev.step (fun k => by rw [carve_taken.j0]) ?_
    exact ev_pos rfl (Ev.now _)
  refine ev_bind ht ?_
  by_cases hm : MayB l t
  · have e : t = sumS l := isb_of hm
    have hB : IsB l := by unfold IsB; rw [← e]; exact hm
    refine ev_bind (cmay_yes hl hm) (ev_pos rfl (ev_ite (fun _ => out) (fun c1 => ev_ite (fun _ => out) (fun c2 => ev_pos (by omega) (ev_pos (by omega) ?_)))))
    cases hu : (rd_T35 l i).f2 with
    | true => exact out
    | false =>
      have hr := isb_rd hB (i := i) (by omega) (by omega)
      have hz : tk (rd_T35 l i).f1 need = 0 := by
        by_cases hz : tk (rd_T35 l i).f1 need = 0
        · exact hz
        · exact absurd ⟨hB, by omega, by omega, hu, hz⟩ h
      refine Ev.step (fun k => by rw [carve_taken.j0]) ?_
      exact ev_neg (by decide) (ev_pos (by omega) (ev_pos (by omega) (ev_bind (takes_ev ⟨by omega, by omega⟩) (ev_pos hz (Ev.now _)))))
  · exact ev_bind (cmay_no hl hm) (ev_neg (by decide) out)
theorem tkn_len (b : S35) (need : Int) : 1 ≤ (tkn b need).length ∧ (tkn b need).length ≤ 2 := by
  unfold tkn
  split <;> simp
theorem cblocks_yes {l : List S35} {i need : Int} (hl : l.length ≤ 1000) (h : CanC l i need) : Ev (fun k => carve_Blocks.f k l i need) (crv l i need, true) := by
  have hn := tkn_len (rd_T35 l i) need
  have h2 := h.2.1
  have h3 := h.2.2.1
  unfold carve_Blocks.f
  refine ev_bind (taken_yes (by omega) h) (ev_neg (by omega) (ev_pos h2 (ev_pos (by omega) ?_)))
  rw [w64 (n := i + 1) (by omega)]
  refine ev_pos (by omega) (ev_pos (by omega) (ev_bind (concat_ev (l.take i.toNat) (tkn (rd_T35 l i) need) (l.drop (i + 1).toNat) ?_) (ev_now ?_)))
  · rw [List.length_take, List.length_drop]; omega
  · unfold crv
    rw [show (i + 1).toNat = i.toNat + 1 from by omega]
theorem cblocks_no {l : List S35} {i need : Int} (hl : l.length ≤ 1000) (h : ¬ CanC l i need) : Ev (fun k => carve_Blocks.f k l i need) ([], false) := by
  unfold carve_Blocks.f
  exact ev_bind (taken_no (by omega) h) (ev_pos rfl (Ev.now _))
theorem c_split {l : List S35} {i : Int} (h0 : 0 ≤ i) (h1 : i < l.length) : l = l.take i.toNat ++ rd_T35 l i :: l.drop (i.toNat + 1) := by
  obtain ⟨h, e⟩ := rdt_get h0 h1
  rw [e, ← List.drop_eq_getElem_cons h]
  exact (List.take_append_drop _ _).symm
theorem crv_may {l : List S35} {i need words : Int} (hC : MayB l words) (h : CanC l i need) : MayB (crv l i need) words := by
  obtain ⟨h1, h2, h3, h4, h5⟩ := h
  have hr := isb_rd h1 h2 h3
  have ht := tk_r h5 hr.2.1
  have hc := hC.2
  rw [c_split h2 h3] at hc
  have hs := chain_snd _ _ hc
  obtain ⟨k0, k1, k2, k3, k4, k5⟩ := hs
  rw [h4] at k4 k5
  have hfr : lastFr false (l.take i.toNat) = false := by
    cases hf : lastFr false (l.take i.toNat) with
    | false => rfl
    | true => have := k4 hf; cases this
  have hq : ∀ q Q', l.drop (i.toNat + 1) = q :: Q' → q.f2 = true := by
    intro q Q' e
    rw [e] at k5
    exact k5.2.2.2.2.1 rfl
  refine ⟨hC.1, ?_⟩
  unfold crv
  rw [List.append_assoc]
  refine chain_re _ _ _ hc ?_
  rw [hfr]
  unfold tkn
  split
  · rename_i c
    have := ht.2.2.1 c
    refine ⟨k0, by dsimp only; omega, by dsimp only; omega, by dsimp only; omega, (fun hh => nomatch hh), ?_⟩
    refine ⟨by dsimp only; omega, by dsimp only; omega, by dsimp only; omega, by dsimp only; omega, (fun hh => nomatch hh), ?_⟩
    dsimp only
    have e : 0 + sumS (l.take i.toNat) + tk (rd_T35 l i).f1 need + ((rd_T35 l i).f1 - tk (rd_T35 l i).f1 need) = 0 + sumS (l.take i.toNat) + (rd_T35 l i).f1 := by omega
    rw [e]
    exact k5
  · rename_i c
    have e : tk (rd_T35 l i).f1 need = (rd_T35 l i).f1 := by omega
    refine ⟨k0, by dsimp only; omega, by dsimp only; omega, by dsimp only; omega, (fun hh => nomatch hh), ?_⟩
    dsimp only
    rw [e]
    exact chain_fr _ k5 hq
theorem crv_rd {l : List S35} {i need : Int} (h0 : 0 ≤ i) (h1 : i < l.length) : rd_T35 (crv l i need) i = ⟨(rd_T35 l i).f0, tk (rd_T35 l i).f1 need, true⟩ ∧
    ((crv l i need).length : Int) = l.length + (if tk (rd_T35 l i).f1 need < (rd_T35 l i).f1 then 1 else 0) := by
  have hp : (((l.take i.toNat).length : Nat) : Int) = i := by rw [List.length_take]; omega
  constructor
  · unfold crv tkn
    rw [List.append_assoc, List.cons_append]
    have := rdt_mid (l.take i.toNat) ((if tk (rd_T35 l i).f1 need < (rd_T35 l i).f1 then [(⟨(rd_T35 l i).f0 + tk (rd_T35 l i).f1 need, (rd_T35 l i).f1 - tk (rd_T35 l i).f1 need, false⟩ : S35)] else []) ++ l.drop (i.toNat + 1)) ⟨(rd_T35 l i).f0, tk (rd_T35 l i).f1 need, true⟩
    rwa [hp] at this
  · unfold crv tkn
    rw [List.length_append, List.length_append, List.length_take, List.length_drop]
    split
    · simp only [List.length_cons, List.length_nil]; omega
    · simp only [List.length_cons, List.length_nil]; omega
theorem canc_of {l : List S35} {i need words : Int} (hC : MayB l words) (h0 : 0 ≤ i) (h1 : i < l.length) (hn : 2 ≤ need) : CanC l i need ↔ ((rd_T35 l i).f2 = false ∧ need ≤ (rd_T35 l i).f1) := by
  have hB : IsB l := by unfold IsB; rw [← isb_of hC]; exact hC
  have hr := isb_rd hB h0 h1
  have hz := tk_zero (s := (rd_T35 l i).f1) (n := need) hr.2.1
  constructor
  · rintro ⟨_, _, _, h4, h5⟩
    refine ⟨h4, ?_⟩
    by_cases c : need ≤ (rd_T35 l i).f1
    · exact c
    · exact absurd (hz.2 (by omega)) h5
  · rintro ⟨h4, h5⟩
    exact ⟨hB, h0, h1, h4, fun e => by have := hz.1 e; omega⟩
theorem awake_ev : Ev (fun k => darninglaw17_awake.f k) true := Ev.of (fun k => darninglaw17_awake.mono k) (k := 40) (by decide +kernel)
theorem m_at {m P M Q : List S35} {i : Int} (e : m = P ++ M ++ Q) (h1 : mFrom m i = P.length) (h2 : mTo m i = ((P.length + M.length : Nat) : Int)) : mP m i = P ∧ mM m i = M ∧ mQ m i = Q := by
  unfold mP mM mQ
  rw [h1, h2, Int.toNat_natCast, Int.toNat_natCast]
  refine ⟨?_, ?_, ?_⟩
  · rw [e, List.append_assoc, List.take_left]
  · rw [e, ← List.length_append, List.take_left, List.drop_left]
  · rw [e, ← List.length_append, List.drop_left]
theorem rdt_pre (P R : List S35) {j : Int} (h0 : 0 ≤ j) (h1 : j < P.length) : rd_T35 (P ++ R) j = rd_T35 P j := by
  unfold rd_T35
  rw [List.getD_eq_getElem?_getD, List.getD_eq_getElem?_getD, List.getElem?_append_left (by omega)]
theorem blk_eta (b : S35) : (⟨b.f0, b.f1, b.f2⟩ : S35) = b := rfl
theorem back_one {l : List S35} {i need words : Int} (hC : MayB l words) (h : CanC l i need) : Can (crv l i need) i ∧ mrg (crv l i need) i = l := by
  have hm := crv_may hC h
  obtain ⟨h1, h2, h3, h4, h5⟩ := h
  have hr := isb_rd h1 h2 h3
  have ht := tk_r h5 hr.2.1
  have hcr := crv_rd (need := need) h2 h3
  have hi : 0 ≤ i ∧ i < (crv l i need).length := ⟨h2, by rw [hcr.2]; split <;> omega⟩
  refine ⟨can_of hm hi (by rw [hcr.1]), ?_⟩
  have hp : (((l.take i.toNat).length : Nat) : Int) = i := by rw [List.length_take]; omega
  have hl := c_split h2 h3
  have hfrom : mFrom (crv l i need) i = i := by
    unfold mFrom
    rw [if_neg]
    rintro ⟨c1, c2⟩
    have e1 : rd_T35 (crv l i need) (i - 1) = rd_T35 (l.take i.toNat) (i - 1) := by
      unfold crv
      rw [List.append_assoc]
      exact rdt_pre _ _ (by omega) (by omega)
    have e2 : rd_T35 l (i - 1) = rd_T35 (l.take i.toNat) (i - 1) := by
      conv => lhs; rw [hl]
      exact rdt_pre _ _ (by omega) (by omega)
    rw [e1, ← e2] at c2
    have := chain_alt hC.2 (j := i - 1) (by omega) (by omega) c2
    rw [show i - 1 + 1 = i from by omega, h4] at this
    cases this
  by_cases c : tk (rd_T35 l i).f1 need < (rd_T35 l i).f1
  · have em : crv l i need = l.take i.toNat ++ [⟨(rd_T35 l i).f0, tk (rd_T35 l i).f1 need, true⟩, ⟨(rd_T35 l i).f0 + tk (rd_T35 l i).f1 need, (rd_T35 l i).f1 - tk (rd_T35 l i).f1 need, false⟩] ++ l.drop (i.toNat + 1) := by
      unfold crv tkn
      rw [if_pos c]
    have hnext : rd_T35 (crv l i need) (i + 1) = ⟨(rd_T35 l i).f0 + tk (rd_T35 l i).f1 need, (rd_T35 l i).f1 - tk (rd_T35 l i).f1 need, false⟩ := by
      have := rdt_mid (l.take i.toNat ++ [⟨(rd_T35 l i).f0, tk (rd_T35 l i).f1 need, true⟩]) (l.drop (i.toNat + 1)) ⟨(rd_T35 l i).f0 + tk (rd_T35 l i).f1 need, (rd_T35 l i).f1 - tk (rd_T35 l i).f1 need, false⟩
      rw [List.length_append, List.length_singleton, Int.natCast_add, hp] at this
      rw [em]
      simpa using this
    have hto : mTo (crv l i need) i = i + 2 := by
      unfold mTo
      rw [if_pos ⟨by rw [hcr.2, if_pos c]; omega, by rw [hnext]⟩]
    obtain ⟨a1, a2, a3⟩ := m_at em (by rw [hfrom, hp]) (by rw [hto]; simp only [List.length_cons, List.length_nil]; omega)
    unfold mrg
    rw [a1, a2, a3, hfrom, hcr.1]
    conv => rhs; rw [hl]
    have es : sumS [(⟨(rd_T35 l i).f0, tk (rd_T35 l i).f1 need, true⟩ : S35), ⟨(rd_T35 l i).f0 + tk (rd_T35 l i).f1 need, (rd_T35 l i).f1 - tk (rd_T35 l i).f1 need, false⟩] = (rd_T35 l i).f1 := by
      show tk (rd_T35 l i).f1 need + ((rd_T35 l i).f1 - tk (rd_T35 l i).f1 need + 0) = _
      omega
    rw [es, List.append_assoc, List.singleton_append]
    dsimp only
    rw [← h4, blk_eta]
  · have em : crv l i need = l.take i.toNat ++ [⟨(rd_T35 l i).f0, tk (rd_T35 l i).f1 need, true⟩] ++ l.drop (i.toNat + 1) := by
      unfold crv tkn
      rw [if_neg c]
    have et : tk (rd_T35 l i).f1 need = (rd_T35 l i).f1 := by omega
    have hto : mTo (crv l i need) i = i + 1 := by
      unfold mTo
      rw [if_neg]
      rintro ⟨d1, d2⟩
      rw [hcr.2, if_neg c] at d1
      have hnext : rd_T35 (crv l i need) (i + 1) = rd_T35 l (i + 1) := by
        have e1 : (crv l i need).drop (i + 1).toNat = l.drop (i + 1).toNat := by
          rw [em, show (i + 1).toNat = (l.take i.toNat ++ [(⟨(rd_T35 l i).f0, tk (rd_T35 l i).f1 need, true⟩ : S35)]).length from by rw [List.length_append, List.length_singleton]; omega, List.drop_left]
          rw [List.length_append, List.length_singleton, show (l.take i.toNat).length = i.toNat from by omega]
        cases hd : l.drop (i + 1).toNat with
        | nil =>
          have := congrArg List.length hd
          rw [List.length_drop, List.length_nil] at this
          omega
        | cons q Q =>
          rw [(rdt_drop (by omega) (e1.trans hd)).1, (rdt_drop (by omega) hd).1]
      rw [hnext] at d2
      have := chain_alt hC.2 (j := i) h2 (by omega) h4
      rw [d2] at this
      cases this
    obtain ⟨a1, a2, a3⟩ := m_at em (by rw [hfrom, hp]) (by rw [hto]; simp only [List.length_cons, List.length_nil]; omega)
    unfold mrg
    rw [a1, a2, a3, hfrom, hcr.1]
    conv => rhs; rw [hl]
    have es : sumS [(⟨(rd_T35 l i).f0, tk (rd_T35 l i).f1 need, true⟩ : S35)] = (rd_T35 l i).f1 := by
      show tk (rd_T35 l i).f1 need + 0 = _
      omega
    rw [es, List.append_assoc, List.singleton_append]
    dsimp only
    rw [← h4, blk_eta]
theorem freeS_app (a b : List S35) : freeS (a ++ b) = freeS a + freeS b := by
  induction a with
  | nil => show freeS b = 0 + freeS b; omega
  | cons x a ih => rw [List.cons_append, freeS_cons, freeS_cons, ih]; omega
theorem free_all {A : List S35} (h : ∀ b ∈ A, b.f2 = false) : freeS A = sumS A := by
  induction A with
  | nil => rfl
  | cons x A ih => rw [freeS_cons, h x List.mem_cons_self, if_neg (by decide), ih (fun b hb => h b (List.mem_cons_of_mem _ hb))]; rfl
theorem m_used {l : List S35} {i : Int} (hi : 0 ≤ i ∧ i < l.length) (hu : (rd_T35 l i).f2 = true) : sumS (mM l i) = freeS (mM l i) + (rd_T35 l i).f1 := by
  have ft := from_to hi
  have er : rd_T35 (l.take (mTo l i).toNat) i = rd_T35 l i := by
    unfold rd_T35
    rw [List.getD_eq_getElem?_getD, List.getD_eq_getElem?_getD, List.getElem?_take_of_lt (by omega)]
  have e := c_split (l := l.take (mTo l i).toNat) hi.1 (by rw [List.length_take]; omega)
  rw [er, List.take_take, Nat.min_eq_left (by omega)] at e
  have eM : mM l i = (l.take i.toNat).drop (mFrom l i).toNat ++ rd_T35 l i :: (l.take (mTo l i).toNat).drop (i.toNat + 1) := by
    unfold mM
    conv => lhs; rw [e]
    rw [List.drop_append_of_le_length (by rw [List.length_take]; omega)]
  have hA : ∀ b ∈ (l.take i.toNat).drop (mFrom l i).toNat, b.f2 = false := by
    intro b hb
    by_cases c : i > 0 ∧ (rd_T35 l (i - 1)).f2 = false
    · have ef : mFrom l i = i - 1 := by unfold mFrom; rw [if_pos c]
      rw [ef] at hb
      cases hd : (l.take i.toNat).drop (i - 1).toNat with
      | nil => rw [hd] at hb; cases hb
      | cons q Q =>
        have hlen := congrArg List.length hd
        rw [List.length_drop, List.length_take, List.length_cons] at hlen
        have hQ : Q = [] := List.eq_nil_of_length_eq_zero (by omega)
        rw [hd, hQ] at hb
        rw [List.mem_singleton.1 hb]
        have e1 := (rdt_drop (by omega) hd).1
        have e2 : rd_T35 (l.take i.toNat) (i - 1) = rd_T35 l (i - 1) := by
          unfold rd_T35
          rw [List.getD_eq_getElem?_getD, List.getD_eq_getElem?_getD, List.getElem?_take_of_lt (by omega)]
        rw [← e1, e2]; exact c.2
    · have ef : mFrom l i = i := by unfold mFrom; rw [if_neg c]
      rw [ef, List.drop_of_length_le (by rw [List.length_take]; omega)] at hb
      cases hb
  have hD : ∀ b ∈ (l.take (mTo l i).toNat).drop (i.toNat + 1), b.f2 = false := by
    intro b hb
    by_cases c : i + 1 < l.length ∧ (rd_T35 l (i + 1)).f2 = false
    · have et : mTo l i = i + 2 := by unfold mTo; rw [if_pos c]
      rw [et, show i.toNat + 1 = (i + 1).toNat from by omega] at hb
      cases hd : (l.take (i + 2).toNat).drop (i + 1).toNat with
      | nil => rw [hd] at hb; cases hb
      | cons q Q =>
        have hlen := congrArg List.length hd
        rw [List.length_drop, List.length_take, List.length_cons] at hlen
        have hQ : Q = [] := List.eq_nil_of_length_eq_zero (by omega)
        rw [hd, hQ] at hb
        rw [List.mem_singleton.1 hb]
        have e1 := (rdt_drop (by omega) hd).1
        have e2 : rd_T35 (l.take (i + 2).toNat) (i + 1) = rd_T35 l (i + 1) := by
          unfold rd_T35
          rw [List.getD_eq_getElem?_getD, List.getD_eq_getElem?_getD, List.getElem?_take_of_lt (by omega)]
        rw [← e1, e2]; exact c.2
    · have et : mTo l i = i + 1 := by unfold mTo; rw [if_neg c]
      rw [et, List.drop_of_length_le (by rw [List.length_take]; omega)] at hb
      cases hb
  rw [eM, sumS_app, freeS_app, freeS_cons, if_pos hu, free_all hA, show sumS (rd_T35 l i :: (l.take (mTo l i).toNat).drop (i.toNat + 1)) = (rd_T35 l i).f1 + sumS ((l.take (mTo l i).toNat).drop (i.toNat + 1)) from rfl, free_all hD]
  omega
theorem mrg_free {l : List S35} {i : Int} (hi : 0 ≤ i ∧ i < l.length) (hu : (rd_T35 l i).f2 = true) : freeS (mrg l i) = freeS l + (rd_T35 l i).f1 := by
  have e := congrArg freeS (m_split hi)
  rw [freeS_app, freeS_app] at e
  have := m_used hi hu
  unfold mrg
  rw [freeS_app, freeS_app]
  have e2 : freeS [(⟨(rd_T35 l (mFrom l i)).f0, sumS (mM l i), false⟩ : S35)] = sumS (mM l i) + 0 := rfl
  omega
theorem apply_one {v : List Int} {a x : Int} (hl : v.length ≤ 100000) (h0 : 0 ≤ a) (h1 : a < v.length) : Ev (fun k => darningref4_Apply.f k v [⟨a, x⟩]) (v.set a.toNat x) := by
  unfold darningref4_Apply.f
  refine ev_pos (by simp only [List.length_nil]; omega) ?_
  rw [List.nil_append]
  refine Ev.step (fun k => by rw [darningref4_Apply.l0]) ?_
  rw [show rd_T30 [(⟨a, x⟩ : S30)] 0 = ⟨a, x⟩ from rfl, show wrap64 ((0 : Int) + 1) = 1 from w64 (by decide)]
  refine ev_pos (by simp) (ev_pos (by decide) (ev_pos (by simp) (ev_pos h0 (ev_pos h1 (ev_pos h0 ?_)))))
  refine Ev.step (fun k => by rw [darningref4_Apply.l0]) ?_
  exact ev_neg (by simp) (Ev.now _)
theorem MergeBack : darninglaw17_MergeBack.Pure := by
  intro l words a n hm hy hw h1 h2 h3
  apply Ev.rounds
  unfold darninglaw17_MergeBack.f
  have outp : Ev (fun k => darninglaw17_MergeBack.j0 k l words a n true) true := by
    refine Ev.step (fun k => by rw [darninglaw17_MergeBack.j0]) ?_
    exact ev_pos rfl (ev_bind awake_ev (Ev.now _))
  have j1 : Ev (fun k => darninglaw17_MergeBack.j1 k true) true := by
    refine Ev.step (fun k => by rw [darninglaw17_MergeBack.j1]) ?_
    exact Ev.now _
  have j2 : Ev (fun k => darninglaw17_MergeBack.j2 k true) true := by
    refine Ev.step (fun k => by rw [darninglaw17_MergeBack.j2]) ?_
    exact Ev.now _
  refine ev_ite (fun _ => outp) (fun c1 => ev_ite (fun _ => outp) (fun c2 => ?_))
  by_cases hC : MayB l words
  case neg => exact ev_bind (mayb_no (by omega) hC) outp
  refine ev_bind (mayb_yes (by omega) hC) ?_
  refine Ev.step (fun k => by rw [darninglaw17_MergeBack.j0]) ?_
  refine ev_neg (by decide) ?_
  rw [u64w (l.length : Int), show (l.length : Int) % 18446744073709551616 = l.length from by omega, modw a _ (by omega) (by omega), modw n 60 (by omega) (by omega)]
  have x0 := Int.emod_nonneg (a % 18446744073709551616) (b := (l.length : Int)) (by omega)
  have x1 := Int.emod_lt_of_pos (a % 18446744073709551616) (b := (l.length : Int)) (by omega)
  have y0 := Int.emod_nonneg (n % 18446744073709551616) (b := 60) (by omega)
  have y1 := Int.emod_lt_of_pos (n % 18446744073709551616) (b := 60) (by omega)
  generalize a % 18446744073709551616 % (l.length : Int) = i at x0 x1 ⊢
  generalize n % 18446744073709551616 % 60 = y at y0 y1 ⊢
  rw [w64 (n := 2 + y) (by omega)]
  have hB : IsB l := by unfold IsB; rw [← isb_of hC]; exact hC
  have hr := isb_rd hB x0 x1
  have hi : 0 ≤ i ∧ i < l.length := ⟨x0, x1⟩
  have hwd := hC.1
  unfold MayW at hwd
  refine ev_neg (by omega) (ev_pos x0 (ev_pos x1 (ev_ite (fun hu => ?_) (fun hu => ?_))))
  · -- a used one is given back
    have hcan := can_of hC hi hu
    have hM := mrg_may hC hi hu
    have ft := from_to hi
    obtain ⟨v, hv, hH⟩ := words_ev (by omega) hC
    obtain ⟨hW, hlen⟩ := heads_wds hC hH
    have hml : (mrg l i).length ≤ 1001 := by
      unfold mrg mP mQ
      simp only [List.length_append, List.length_take, List.length_drop, List.length_cons, List.length_nil]
      omega
    have hrf := isb_rd hB (i := mFrom l i) ft.1 (by omega)
    have hg := mM_good hB hi
    have hcm := hM.2
    have hmid : mrg l i = mP l i ++ ⟨(rd_T35 l (mFrom l i)).f0, sumS (mM l i), false⟩ :: mQ l i := by
      unfold mrg
      rw [List.append_assoc]
      rfl
    rw [hmid] at hcm
    have hs2 := (chain_mem hcm ⟨(rd_T35 l (mFrom l i)).f0, sumS (mM l i), false⟩ (by simp))
    dsimp only at hs2
    have hwd2 : hWord (sumS (mM l i)) false = 2 * sumS (mM l i) := by
      unfold hWord
      rw [if_pos ⟨hs2.2.1, hs2.2.2.1⟩]
      simp
    have hup := chain_up hcm
    rw [List.pairwise_append] at hup
    have hparse : ParseP (v.set (rd_T35 l (mFrom l i)).f0.toNat (2 * sumS (mM l i))) 0 (mrg l i) := by
      refine parse_of (fr := false) (by rw [List.length_set, hlen]; exact hM.2) ?_
      intro b hb
      rw [hmid] at hb
      have old : b ∈ l → b.f0 ≠ (rd_T35 l (mFrom l i)).f0 → rd (v.set (rd_T35 l (mFrom l i)).f0.toNat (2 * sumS (mM l i))) b.f0 = headOf b := by
        intro hbl hne
        have hbm := chain_mem hC.2 b hbl
        rw [rd_set _ _ (by omega), if_neg (by omega)]
        exact hH.2.1 b hbl
      rcases List.mem_append.1 hb with hb | hb
      · have h1 := hup.2.2 b hb _ List.mem_cons_self
        have h2 : b ∈ l := by rw [m_split hi]; exact List.mem_append_left _ (List.mem_append_left _ hb)
        have h3 := chain_mem hC.2 b h2
        exact old h2 (by dsimp only at h1; omega)
      · rcases List.mem_cons.1 hb with hb | hb
        · rw [hb]
          dsimp only
          rw [rd_set _ _ (by omega), if_pos rfl]
          unfold headOf
          simp
        · have h1 := (List.pairwise_cons.1 hup.2.1).1 b hb
          have h2 : b ∈ l := by rw [m_split hi]; exact List.mem_append_right _ hb
          exact old h2 (by dsimp only at h1; omega)
    have hap := apply_one (v := v) (a := (rd_T35 l (mFrom l i)).f0) (x := 2 * sumS (mM l i)) (by omega) hrf.1 (by omega)
    have hW2 : Wds (v.set (rd_T35 l (mFrom l i)).f0.toNat (2 * sumS (mM l i))) := wds_set hW (by omega) (by omega)
    have hb2 := blocks_yes hW2 hparse (by rw [List.length_set, hlen]; exact hM)
    obtain ⟨r1, hr1, e1, _⟩ := free_ev (l := mrg l i) (by omega)
    obtain ⟨r2, hr2, e2, _⟩ := free_ev (l := l) (by omega)
    have cl := counted_of hC
    have b2 := free_r cl.1
    rw [e1 (counted_of hM)] at hr1
    rw [e2 cl] at hr2
    refine ev_bind (mblocks_yes (by omega) hcan) (ev_bind (medit_yes (by omega) hcan) (ev_bind hv ?_))
    dsimp only
    rw [hwd2]
    refine ev_bind hap (ev_bind hb2 (ev_pos rfl (ev_pos rfl (ev_pos rfl (ev_bind (sameb_yes (by show (mrg l i).length ≤ 100000; omega)) (ev_pos rfl (ev_bind (cmay_yes (by omega) hM) (ev_pos rfl (ev_bind hr1 (ev_bind hr2 ?_))))))))))
    rw [w64 (n := freeS l + (rd_T35 l i).f1) (by omega)]
    exact ev_pos (mrg_free hi hu) (ev_bind awake_ev j2)
  · have hu : (rd_T35 l i).f2 = false := by simpa using hu
    by_cases h : CanC l i (2 + y)
    · obtain ⟨b1, b2⟩ := back_one hC h
      have hcr := crv_rd (need := 2 + y) x0 x1
      refine ev_bind (cblocks_yes (by omega) h) (ev_pos rfl (ev_bind (mblocks_yes (by dsimp only; split at hcr <;> omega) b1) (ev_pos rfl ?_)))
      dsimp only
      rw [b2]
      exact ev_bind (sameb_yes (by omega)) (ev_pos rfl (ev_bind awake_ev j1))
    · have hno := fun hh => h ((canc_of hC x0 x1 (by omega)).2 hh)
      refine ev_bind (cblocks_no (by omega) h) (ev_neg (by decide) (ev_pos ?_ (ev_bind awake_ev (Ev.now _))))
      by_cases d : 2 + y ≤ (rd_T35 l i).f1
      · exact absurd ⟨hu, d⟩ hno
      · omega

end Go.Proofs.Ytglekonhdjploaa.Pure
