/- CarveEdited: edited so, the words are those blocks; the taken one's words but its header are noughts, all words beside it are as they were. -/
import Derived.Test.YtglekonhdjploaaXCarveEditedx
namespace Go.Proofs.Ytglekonhdjploaa.Pure
open Go.RowKit Go.Proofs.Ytglekonhdjploaa.XCarveEdited Go.Proofs.YtglekonhdjploaaW.PrintWords Go.Proofs.YtglekonhdjploaaW.PrintLast

theorem wf64 {a : Int} (h : (Lit.int .i64 a).wf = true) : -9223372036854775808 ≤ a ∧ a ≤ 9223372036854775807 := by
  simp [Lit.wf, IntKind.min, IntKind.max, IntKind.bits, IntKind.signed] at h
  omega
theorem wfu64 {a : Int} (h : (Lit.int .u64 a).wf = true) : 0 ≤ a ∧ a ≤ 18446744073709551615 := by
  simp [Lit.wf, IntKind.min, IntKind.max, IntKind.bits, IntKind.signed] at h
  omega
theorem u64w (n : Int) : IntKind.u64.wrap n = n % 18446744073709551616 := by simp [IntKind.wrap, IntKind.bits, IntKind.signed]
theorem w64 {n : Int} (h : -9223372036854775808 ≤ n ∧ n ≤ 9223372036854775807) : wrap64 n = n := by unfold wrap64; omega
theorem tmodp {a b : Int} (h : 0 ≤ a) : Int.tmod a b = a % b := Int.tmod_eq_emod_of_nonneg h
theorem tdivp {a b : Int} (h : 0 ≤ a) : Int.tdiv a b = a / b := Int.tdiv_eq_ediv_of_nonneg h
theorem u64_wraps (n : Int) (h₀ : 0 ≤ n) (h₁ : n < 2 ^ 64) : IntKind.u64.wrap n = n := by rw [u64w]; omega
theorem u64_mask (i : Nat) (hi : i ≤ 64) (x : Int) (h₀ : 0 ≤ x) (h₁ : x < 2 ^ 64) : Go.bits .and .u64 x (2 ^ i - 1) = x % 2 ^ i :=
  bits_mask .u64 64 (by decide) u64_wraps i hi x h₀ h₁
theorem u64_and1 {x : Int} (h₀ : 0 ≤ x) (h₁ : x ≤ 18446744073709551615) : Go.bits .and .u64 x 1 = x % 2 := u64_mask 1 (by decide) x h₀ (by omega)
theorem u64_and3 {x : Int} (h₀ : 0 ≤ x) (h₁ : x ≤ 18446744073709551615) : Go.bits .and .u64 x 3 = x % 4 := u64_mask 2 (by decide) x h₀ (by omega)
theorem u64_or1 {x : Int} (h₀ : 0 ≤ x) (h₁ : x ≤ 18446744073709551615) (h : x % 2 = 0) : Go.bits .or .u64 x 1 = x + 1 :=
  bits_join .u64 64 (by decide) u64_wraps 1 x 1 h₀ h (by omega) (by decide) (by decide) (by decide)
theorem modw (a m : Int) (h : 0 < m) (hm : m ≤ 1000000) : wrap64 (Int.tmod (IntKind.u64.wrap a) m) = (a % 18446744073709551616) % m := by
  rw [u64w, tmodp (by omega), w64]
  have := Int.emod_nonneg (a % 18446744073709551616) (b := m) (by omega)
  have := Int.emod_lt_of_pos (a % 18446744073709551616) h
  omega
theorem ev_pos {α : Type} {c : Prop} [Decidable c] {a b : Nat → Option α} {r : α} (h : c) (k : Ev a r) : Ev (fun n => if c then a n else b n) r := by
  simp only [if_pos h]; exact k
theorem ev_neg {α : Type} {c : Prop} [Decidable c] {a b : Nat → Option α} {r : α} (h : ¬ c) (k : Ev b r) : Ev (fun n => if c then a n else b n) r := by
  simp only [if_neg h]; exact k
theorem ev_ite {α : Type} {c : Prop} [Decidable c] {a b : Nat → Option α} {r : α} (h1 : c → Ev a r) (h2 : ¬ c → Ev b r) : Ev (fun n => if c then a n else b n) r := by
  by_cases h : c
  · exact ev_pos h (h1 h)
  · exact ev_neg h (h2 h)
theorem ev_bindc {α β : Type} {o : Option α} {f : Nat → α → Option β} {a : α} {r : β} (h : o = some a) (k : Ev (fun n => f n a) r) : Ev (fun n => o.bind (f n)) r := by
  subst h; exact k
theorem ev_bind {α β : Type} {g : Nat → Option α} {f : Nat → α → Option β} {a : α} {r : β} (h : Ev g a) (k : Ev (fun n => f n a) r) : Ev (fun n => (g n).bind (f n)) r := Ev.bind h k
theorem ev_now {α : Type} {r s : α} (h : s = r) : Ev (fun _ => some s) r := by subst h; exact Ev.now _
theorem ev_some {α : Type} {o : Option α} {r : α} (h : o = some r) : Ev (fun _ => o) r := ⟨0, fun _ _ => h⟩
theorem ev_one {α : Type} {g : Nat → Option α} {r : α} (h : ∀ k, g (k + 1) = some r) : Ev g r := ⟨1, fun k hk => by obtain ⟨m, rfl⟩ : ∃ m, k = m + 1 := ⟨k - 1, by omega⟩; exact h m⟩
theorem ev_two {α : Type} {g : Nat → Option α} {r : α} (h : ∀ k, g (k + 2) = some r) : Ev g r := ⟨2, fun k hk => by obtain ⟨m, rfl⟩ : ∃ m, k = m + 2 := ⟨k - 2, by omega⟩; exact h m⟩
theorem rdt_mid (pre suf : List S35) (x : S35) : rd_T35 (pre ++ x :: suf) (pre.length : Int) = x := by
  unfold rd_T35
  rw [List.getD_eq_getElem?_getD, Int.toNat_natCast, List.getElem?_append_right (by omega)]
  simp
theorem rdt_last (pre suf : List S35) (x : S35) : rd_T35 ((pre ++ [x]) ++ suf) (((pre ++ [x]).length : Int) - 1) = x := by
  have e : (((pre ++ [x]).length : Int) - 1) = (pre.length : Int) := by simp
  rw [e, List.append_assoc]
  exact rdt_mid pre suf x
theorem rdt_get {l : List S35} {j : Int} (h0 : 0 ≤ j) (h1 : j < l.length) : ∃ h : j.toNat < l.length, rd_T35 l j = l[j.toNat]'h := by
  refine ⟨by omega, ?_⟩
  unfold rd_T35
  rw [List.getD_eq_getElem?_getD, List.getElem?_eq_getElem (by omega)]
  rfl
theorem rdt_mem {l : List S35} {j : Int} (h0 : 0 ≤ j) (h1 : j < l.length) : rd_T35 l j ∈ l := by
  obtain ⟨h, e⟩ := rdt_get h0 h1
  rw [e]
  exact List.getElem_mem h
/-- Blocks side by side, from a word on; fr: is the block ahead of them free? -/
def ChainP (words : Int) : Int → Bool → List S35 → Prop
  | a, _, [] => a = words
  | a, fr, b :: l => b.f0 = a ∧ 2 ≤ b.f1 ∧ b.f1 ≤ 512 ∧ b.f1 ≤ words - a ∧ (fr = true → b.f2 = true) ∧ ChainP words (a + b.f1) (!b.f2) l
def MayW (words : Int) : Prop := 8 ≤ words ∧ words ≤ 512 ∧ words % 8 = 0
instance (words : Int) : Decidable (MayW words) := by unfold MayW; infer_instance
def MayB (l : List S35) (words : Int) : Prop := MayW words ∧ ChainP words 0 false l
theorem chain_mem {words : Int} {l : List S35} : ∀ {a : Int} {fr : Bool}, ChainP words a fr l → ∀ b ∈ l, a ≤ b.f0 ∧ 2 ≤ b.f1 ∧ b.f1 ≤ 512 ∧ b.f0 + b.f1 ≤ words := by
  induction l with
  | nil => exact fun _ b hb => absurd hb (by simp)
  | cons c l ih =>
    intro a fr h b hb
    obtain ⟨h0, h1, h2, h3, h4, h5⟩ := h
    rcases List.mem_cons.1 hb with hb | hb
    · subst hb; omega
    · have := ih h5 b hb; omega
theorem chain_up {words : Int} {l : List S35} : ∀ {a : Int} {fr : Bool}, ChainP words a fr l → l.Pairwise (fun b c => b.f0 + b.f1 ≤ c.f0) := by
  induction l with
  | nil => exact fun _ => List.Pairwise.nil
  | cons c l ih =>
    intro a fr h
    obtain ⟨h0, h1, h2, h3, h4, h5⟩ := h
    refine List.pairwise_cons.2 ⟨fun b hb => ?_, ih h5⟩
    have := chain_mem h5 b hb
    omega
theorem chain_le {words : Int} {l : List S35} : ∀ {a : Int} {fr : Bool}, ChainP words a fr l → a ≤ words := by
  induction l with
  | nil => exact fun h => Int.le_of_eq h
  | cons c l ih =>
    intro a fr h
    obtain ⟨h0, h1, h2, h3, h4, h5⟩ := h
    omega
theorem chain_len {words : Int} {l : List S35} : ∀ {a : Int} {fr : Bool}, ChainP words a fr l → a + 2 * l.length ≤ words := by
  induction l with
  | nil => intro a fr h; have : a = words := h; simp; omega
  | cons c l ih =>
    intro a fr h
    obtain ⟨h0, h1, h2, h3, h4, h5⟩ := h
    have := ih h5
    simp; omega
theorem chain_rd {words : Int} {l : List S35} (h : ChainP words 0 false l) {j : Int} (h0 : 0 ≤ j) (h1 : j < l.length) :
    0 ≤ (rd_T35 l j).f0 ∧ 2 ≤ (rd_T35 l j).f1 ∧ (rd_T35 l j).f1 ≤ 512 ∧ (rd_T35 l j).f0 + (rd_T35 l j).f1 ≤ words := chain_mem h _ (rdt_mem h0 h1)
theorem chain_lt {words : Int} {l : List S35} (h : ChainP words 0 false l) {i j : Int} (h0 : 0 ≤ i) (h1 : i < j) (h2 : j < l.length) : (rd_T35 l i).f0 + (rd_T35 l i).f1 ≤ (rd_T35 l j).f0 := by
  obtain ⟨hi, ei⟩ := rdt_get (l := l) h0 (by omega)
  obtain ⟨hj, ej⟩ := rdt_get (l := l) (j := j) (by omega) h2
  rw [ei, ej]
  exact List.pairwise_iff_getElem.1 (chain_up h) _ _ hi hj (by omega)
/-- Is the last one of some blocks free? -/
def frOf (l : List S35) : Bool := match l.getLast? with | some b => !b.f2 | none => false
theorem frOf_snoc (l : List S35) (b : S35) : frOf (l ++ [b]) = !b.f2 := by simp [frOf]
theorem frOf_pos {l : List S35} (h : frOf l = true) : ∃ m b, l = m ++ [b] ∧ b.f2 = false := by
  rcases List.eq_nil_or_concat l with rfl | ⟨m, b, rfl⟩
  · simp [frOf] at h
  · refine ⟨m, b, by simp, ?_⟩
    simpa [frOf] using h
theorem cmayw_eq (n : Int) : chain_mayWords.f n = some (decide (8 ≤ n ∧ n ≤ 512 ∧ n % 8 = 0)) := by
  unfold chain_mayWords.f
  by_cases h1 : n ≥ 8
  · rw [if_pos h1]
    by_cases h2 : n ≤ 512
    · rw [if_pos h2, tmodp (by omega)]
      congr 1
      rw [Bool.eq_iff_iff, beq_iff_eq, decide_eq_true_iff]
      exact ⟨fun h => ⟨h1, h2, h⟩, fun h => h.2.2⟩
    · rw [if_neg h2, decide_eq_false (by omega)]
  · rw [if_neg h1, decide_eq_false (by omega)]
theorem bmay_eq (n : Int) : block_May.f n = some (decide (2 ≤ n ∧ n ≤ 512)) := by
  unfold block_May.f
  by_cases h2 : n ≥ 2
  · rw [if_pos h2]; congr 1; rw [Bool.eq_iff_iff]; simp only [decide_eq_true_iff]; omega
  · rw [if_neg h2, decide_eq_false (by omega)]
theorem cmay_l0 {words : Int} (hw : words ≤ 100000) (suf : List S35) : ∀ (pre : List S35) (a : Int) (fr : Bool), 0 ≤ a → a ≤ words → (pre ++ suf).length ≤ 100000 →
    ∃ b, Ev (fun k => chain_May.l0 k words a fr (pre ++ suf) ((pre ++ suf).length : Int) (pre.length : Int)) b ∧ (b = true ↔ ChainP words a fr suf) := by
  induction suf with
  | nil =>
    intro pre a fr h0 h1 hl
    refine ⟨a == words, Ev.step (fun k => by rw [chain_May.l0]) (ev_neg (by simp) (Ev.now _)), ?_⟩
    rw [beq_iff_eq]; exact Iff.rfl
  | cons x suf ih =>
    intro pre a fr h0 h1 hl
    have e : pre ++ x :: suf = (pre ++ [x]) ++ suf := by simp
    have hlen2 : ((pre ++ [x]).length : Int) = (pre.length : Int) + 1 := by simp
    have hlt : (pre.length : Int) < ((pre ++ x :: suf).length : Int) := by simp; omega
    have w1 : wrap64 ((pre.length : Int) + 1) = (pre.length : Int) + 1 := w64 (by simp at hl; omega)
    have w2 : wrap64 (words - a) = words - a := w64 (by omega)
    by_cases c1 : x.f0 = a
    · by_cases c2 : 2 ≤ x.f1 ∧ x.f1 ≤ 512
      · by_cases c4 : fr = true ∧ x.f2 = false
        · refine ⟨false, Ev.step (fun k => by rw [chain_May.l0]) ?_, ⟨fun h => (by cases h), fun h => by have := h.2.2.2.2.1 c4.1; rw [c4.2] at this; cases this⟩⟩
          rw [rdt_mid]
          exact ev_pos hlt (ev_pos (by omega) (ev_pos hlt (ev_pos c1 (ev_bindc (bmay_eq _) (ev_pos (by simp [c2]) (ev_pos c4.1 (ev_neg (by rw [c4.2]; decide) (Ev.now _))))))))
        · by_cases c3 : x.f1 > words - a
          · refine ⟨false, Ev.step (fun k => by rw [chain_May.l0]) ?_, ⟨fun h => (by cases h), fun h => by have := h.2.2.2.1; omega⟩⟩
            rw [rdt_mid, w2]
            refine ev_pos hlt (ev_pos (by omega) (ev_pos hlt (ev_pos c1 (ev_bindc (bmay_eq _) (ev_pos (by simp [c2]) ?_)))))
            exact ev_ite (fun _ => ev_ite (fun _ => ev_pos c3 (Ev.now _)) (fun _ => Ev.now _)) (fun _ => ev_pos c3 (Ev.now _))
          · have w3 : wrap64 (a + x.f1) = a + x.f1 := w64 (by omega)
            obtain ⟨b, hb, hi⟩ := ih (pre ++ [x]) (a + x.f1) (!x.f2) (by omega) (by omega) (by rw [← e]; exact hl)
            rw [hlen2, ← e] at hb
            refine ⟨b, Ev.step (fun k => by rw [chain_May.l0]) ?_, ?_⟩
            · rw [rdt_mid, w2, w1, w3]
              refine ev_pos hlt (ev_pos (by omega) (ev_pos hlt (ev_pos c1 (ev_bindc (bmay_eq _) (ev_pos (by simp [c2]) ?_)))))
              refine ev_ite (fun hf => ?_) (fun _ => ev_neg c3 hb)
              refine ev_pos ?_ (ev_neg c3 hb)
              cases hx : x.f2 with
              | true => rfl
              | false => exact absurd ⟨hf, hx⟩ c4
            · rw [hi]
              constructor
              · intro h
                exact ⟨c1, c2.1, c2.2, by omega, fun hf => by
                  cases hx : x.f2 with
                  | true => rfl
                  | false => exact absurd ⟨hf, hx⟩ c4, h⟩
              · exact fun h => h.2.2.2.2.2
      · refine ⟨false, Ev.step (fun k => by rw [chain_May.l0]) ?_, ⟨fun h => (by cases h), fun h => absurd ⟨h.2.1, h.2.2.1⟩ c2⟩⟩
        rw [rdt_mid]
        exact ev_pos hlt (ev_pos (by omega) (ev_pos hlt (ev_pos c1 (ev_bindc (bmay_eq _) (ev_neg (by simp; omega) (Ev.now _))))))
    · refine ⟨false, Ev.step (fun k => by rw [chain_May.l0]) ?_, ⟨fun h => (by cases h), fun h => absurd h.1 c1⟩⟩
      rw [rdt_mid]
      exact ev_pos hlt (ev_pos (by omega) (ev_pos hlt (ev_neg c1 (Ev.now _))))
theorem cmay_ev {l : List S35} (words : Int) (hl : l.length ≤ 100000) : ∃ b, Ev (fun k => chain_May.f k l words) b ∧ (b = true ↔ MayB l words) := by
  unfold chain_May.f
  by_cases h : 8 ≤ words ∧ words ≤ 512 ∧ words % 8 = 0
  · obtain ⟨b, hb, hi⟩ := cmay_l0 (words := words) (by omega) l [] 0 false (by omega) (by omega) hl
    refine ⟨b, ev_bindc (cmayw_eq words) (ev_pos (by simp [h]) hb), hi.trans ⟨fun hh => ⟨h, hh⟩, fun hh => hh.2⟩⟩
  · exact ⟨false, ev_bindc (cmayw_eq words) (ev_neg (by simpa using h) (Ev.now _)), ⟨fun hh => (by cases hh), fun hh => absurd hh.1 h⟩⟩
theorem cmay_yes {l : List S35} {words : Int} (hl : l.length ≤ 100000) (h : MayB l words) : Ev (fun k => chain_May.f k l words) true := by
  obtain ⟨b, hb, hi⟩ := cmay_ev words hl
  rwa [hi.2 h] at hb
theorem cmay_no {l : List S35} {words : Int} (hl : l.length ≤ 100000) (h : ¬ MayB l words) : Ev (fun k => chain_May.f k l words) false := by
  obtain ⟨b, hb, hi⟩ := cmay_ev words hl
  cases b with
  | true => exact absurd (hi.1 rfl) h
  | false => exact hb
theorem blk_ext {a b : S35} (h0 : a.f0 = b.f0) (h1 : a.f1 = b.f1) (h2 : a.f2 = b.f2) : a = b := by
  cases a; cases b; simp at h0 h1 h2; simp [h0, h1, h2]
theorem parse_eq {w : Int} (h : 0 ≤ w ∧ w ≤ 18446744073709551615) :
    block_Parse.f w = if 2 ≤ w / 2 ∧ w / 2 ≤ 512 then some (w / 2, w % 2 == 1, true) else some (0, false, false) := by
  unfold block_Parse.f block_May.f
  rw [u64_and1 h.1 h.2, w64 (by omega)]
  by_cases h1 : w / 2 > 512
  · rw [if_pos h1, if_neg (by omega)]
  · rw [if_neg h1]
    by_cases h2 : w / 2 ≥ 2
    · rw [if_pos h2, if_pos (by omega)]
      simp only [Option.bind_some]
      rw [if_pos (by simp; omega)]
    · rw [if_neg h2, if_neg (by omega)]; rfl
theorem word_eq (n : Int) (u : Bool) : block_Word.f n u = some (if 2 ≤ n ∧ n ≤ 512 then 2 * n + (if u then 1 else 0) else 0) := by
  unfold block_Word.f block_May.f
  by_cases h : 2 ≤ n ∧ n ≤ 512
  · rw [if_pos (by omega), if_pos h]
    simp only [Option.bind_some]
    rw [if_pos (by simp; omega)]
    have e : IntKind.u64.wrap (IntKind.u64.wrap n * 2) = 2 * n := by rw [u64w, u64w]; omega
    rw [e]
    cases u
    · simp
    · simp only [if_true]; rw [u64_or1 (by omega) (by omega) (by omega)]
  · rw [if_neg h]
    by_cases h2 : n ≥ 2
    · rw [if_pos h2]; simp only [Option.bind_some]; rw [if_neg (by simp; omega)]
    · rw [if_neg h2]; rfl
/-- The words that the statement speaks of. -/
def Wds (w : List Int) : Prop := w.length ≤ 2000 ∧ ∀ j : Int, 0 ≤ rd w j ∧ rd w j ≤ 18446744073709551615
theorem wds_of {w : List Int} (h : ∀ x ∈ w, (Lit.int .u64 x).wf = true) (hl : w.length ≤ 2000) : Wds w := by
  refine ⟨hl, fun j => ?_⟩
  unfold rd
  rw [List.getD_eq_getElem?_getD]
  by_cases hj : j.toNat < w.length
  · rw [List.getElem?_eq_getElem hj]
    exact wfu64 (h _ (List.getElem_mem hj))
  · rw [List.getElem?_eq_none (by omega)]; exact ⟨by decide, by decide⟩
/-- The blocks that words are, from a word on. -/
def ParseP (w : List Int) : Int → List S35 → Prop
  | a, [] => (w.length : Int) ≤ a
  | a, b :: l => a < w.length ∧ b.f0 = a ∧ 2 ≤ rd w a / 2 ∧ rd w a / 2 ≤ 512 ∧ b.f1 = rd w a / 2 ∧ b.f2 = (rd w a % 2 == 1) ∧ ParseP w (a + b.f1) l
theorem parse_one {w : List Int} {l : List S35} : ∀ {a : Int} {m : List S35}, ParseP w a l → ParseP w a m → l = m := by
  induction l with
  | nil =>
    intro a m h h'
    cases m with
    | nil => rfl
    | cons b m => have h1 : (w.length : Int) ≤ a := h; have := h'.1; omega
  | cons b l ih =>
    intro a m h h'
    cases m with
    | nil => have h1 : (w.length : Int) ≤ a := h'; have := h.1; omega
    | cons c m =>
      obtain ⟨a0, a1, a2, a3, a4, a5, a6⟩ := h
      obtain ⟨b0, b1, b2, b3, b4, b5, b6⟩ := h'
      have e : b = c := blk_ext (by rw [a1, b1]) (by rw [a4, b4]) (by rw [a5, b5])
      subst e
      rw [ih a6 b6]
def BlocksP (w : List Int) (r : List S35 × Bool) : Prop :=
  (ParseP w 0 r.1 ∧ MayB r.1 w.length ∧ r.2 = true) ∨ ((∀ l, ParseP w 0 l → ¬ MayB l w.length) ∧ r = ([], false))
theorem blocks_one {w : List Int} {r r' : List S35 × Bool} (h : BlocksP w r) (h' : BlocksP w r') : r = r' := by
  rcases h with ⟨a, b, c⟩ | ⟨a, b⟩
  · rcases h' with ⟨a', b', c'⟩ | ⟨a', b'⟩
    · exact Prod.ext (parse_one a a') (by rw [c, c'])
    · exact absurd b (a' _ a)
  · rcases h' with ⟨a', b', c'⟩ | ⟨a', b'⟩
    · exact absurd b' (a _ a')
    · rw [b, b']
theorem blocks_l0 {w : List Int} (hw : Wds w) (d : Nat) : ∀ (acc : List S35) (a : Int), 0 ≤ a → (w.length : Int) ≤ a + d → a ≤ 3000 → (acc.length : Int) ≤ a →
    ∃ r, Ev (fun k => chain_Blocks.l0 k w acc a) r ∧ ((∃ l, ParseP w a l ∧ MayB (acc ++ l) w.length ∧ r = (acc ++ l, true)) ∨ ((∀ l, ParseP w a l → ¬ MayB (acc ++ l) w.length) ∧ r = ([], false))) := by
  have hlen := hw.1
  have fin : ∀ (acc : List S35) (a : Int), 0 ≤ a → (w.length : Int) ≤ a → a ≤ 3000 → (acc.length : Int) ≤ a →
      ∃ r, Ev (fun k => chain_Blocks.l0 k w acc a) r ∧ ((∃ l, ParseP w a l ∧ MayB (acc ++ l) w.length ∧ r = (acc ++ l, true)) ∨ ((∀ l, ParseP w a l → ¬ MayB (acc ++ l) w.length) ∧ r = ([], false))) := by
    intro acc a h0 h1 h2 h3
    obtain ⟨b, hb, hi⟩ := cmay_ev (l := acc) (w.length : Int) (by omega)
    have pn : ∀ l, ParseP w a l → l = [] := fun l hl => by
      cases l with
      | nil => rfl
      | cons c l => have := hl.1; omega
    cases b with
    | true =>
      refine ⟨(acc, true), Ev.step (fun k => by rw [chain_Blocks.l0]) ?_, Or.inl ⟨[], h1, by rw [List.append_nil]; exact hi.1 rfl, by rw [List.append_nil]⟩⟩
      exact ev_neg (by omega) (ev_bind hb (ev_pos rfl (Ev.now _)))
    | false =>
      refine ⟨([], false), Ev.step (fun k => by rw [chain_Blocks.l0]) ?_, Or.inr ⟨fun l hl hm => ?_, rfl⟩⟩
      · exact ev_neg (by omega) (ev_bind hb (ev_neg (by decide) (Ev.now _)))
      · rw [pn l hl, List.append_nil] at hm
        have := hi.2 hm
        cases this
  induction d with
  | zero => intro acc a h0 h1; exact fin acc a h0 (by omega)
  | succ d ih =>
    intro acc a h0 h1 h2 h3
    by_cases ha : (w.length : Int) ≤ a
    · exact fin acc a h0 ha h2 h3
    · have hr := hw.2 a
      by_cases hp : 2 ≤ rd w a / 2 ∧ rd w a / 2 ≤ 512
      · obtain ⟨r, hb, hi⟩ := ih (acc ++ [(⟨a, rd w a / 2, rd w a % 2 == 1⟩ : S35)]) (a + rd w a / 2) (by omega) (by omega) (by omega) (by simp; omega)
        refine ⟨r, Ev.step (fun k => by rw [chain_Blocks.l0]) ?_, ?_⟩
        · rw [parse_eq hr, if_pos hp]
          refine ev_pos (by omega) (ev_pos h0 (ev_bindc rfl ?_))
          refine ev_pos rfl (ev_pos (by omega) ?_)
          rw [w64 (n := a + rd w a / 2) (by omega)]
          exact hb
        · rcases hi with ⟨l, q1, q2, q3⟩ | ⟨q1, q2⟩
          · refine Or.inl ⟨(⟨a, rd w a / 2, rd w a % 2 == 1⟩ : S35) :: l, ⟨by omega, rfl, hp.1, hp.2, rfl, rfl, q1⟩, ?_, ?_⟩
            · rw [List.append_assoc] at q2; exact q2
            · rw [q3, List.append_assoc]; rfl
          · refine Or.inr ⟨fun l hl => ?_, q2⟩
            cases l with
            | nil => have hl : (w.length : Int) ≤ a := hl; omega
            | cons b l =>
              obtain ⟨b0, b1, b2, b3, b4, b5, b6⟩ := hl
              have e : b = (⟨a, rd w a / 2, rd w a % 2 == 1⟩ : S35) := blk_ext b1 b4 b5
              rw [b4] at b6
              have := q1 l b6
              rw [List.append_assoc] at this
              rw [e]; exact this
      · refine ⟨([], false), Ev.step (fun k => by rw [chain_Blocks.l0]) ?_, Or.inr ⟨fun l hl => ?_, rfl⟩⟩
        · rw [parse_eq hr, if_neg hp]
          exact ev_pos (by omega) (ev_pos h0 (ev_bindc rfl (ev_neg (by decide) (Ev.now _))))
        · cases l with
          | nil => have hl : (w.length : Int) ≤ a := hl; omega
          | cons b l => exact absurd ⟨hl.2.2.1, hl.2.2.2.1⟩ hp
theorem blocks_ev {w : List Int} (hw : Wds w) : ∃ r, Ev (fun k => chain_Blocks.f k w) r ∧ BlocksP w r := by
  have hlen := hw.1
  obtain ⟨r, h1, h2⟩ := blocks_l0 hw w.length [] 0 (by omega) (by omega) (by omega) (by simp)
  refine ⟨r, h1, ?_⟩
  rcases h2 with ⟨l, a, b, c⟩ | ⟨a, b⟩
  · rw [c]; exact Or.inl ⟨a, b, rfl⟩
  · exact Or.inr ⟨a, b⟩
theorem blocks_yes {w : List Int} {l : List S35} (hw : Wds w) (hp : ParseP w 0 l) (hm : MayB l w.length) : Ev (fun k => chain_Blocks.f k w) (l, true) := by
  obtain ⟨r, h1, h2⟩ := blocks_ev hw
  have := blocks_one h2 (Or.inl ⟨hp, hm, rfl⟩ : BlocksP w (l, true))
  rwa [this] at h1
theorem blocks_no {w : List Int} (hw : Wds w) (h : ∀ l : List S35, ParseP w 0 l → ¬ MayB l w.length) : Ev (fun k => chain_Blocks.f k w) ([], false) := by
  obtain ⟨r, h1, h2⟩ := blocks_ev hw
  have := blocks_one h2 (Or.inr ⟨h, rfl⟩ : BlocksP w ([], false))
  rwa [this] at h1
/-- The header of a block. -/
def headOf (b : S35) : Int := 2 * b.f1 + (if b.f2 = true then 1 else 0)
theorem head_r (b : S35) : (headOf b / 2 = b.f1) ∧ ((headOf b % 2 == 1) = b.f2) := by
  unfold headOf
  cases b.f2
  · rw [if_neg (by decide)]; exact ⟨by omega, by rw [beq_eq_false_iff_ne]; omega⟩
  · rw [if_pos rfl]; exact ⟨by omega, by rw [beq_iff_eq]; omega⟩
/-- Words at which the blocks' headers stand are those blocks. -/
theorem parse_of {w : List Int} {l : List S35} : ∀ {a : Int} {fr : Bool}, ChainP w.length a fr l → (∀ b ∈ l, rd w b.f0 = headOf b) → ParseP w a l := by
  induction l with
  | nil => intro a fr h _; have h : a = w.length := h; show (w.length : Int) ≤ a; omega
  | cons b l ih =>
    intro a fr h hh
    obtain ⟨h0, h1, h2, h3, h4, h5⟩ := h
    have hb := hh b (by simp)
    rw [h0] at hb
    have hr := head_r b
    exact ⟨by omega, h0, by rw [hb, hr.1]; exact h1, by rw [hb, hr.1]; exact h2, by rw [hb, hr.1], by rw [hb, hr.2], ih h5 (fun c hc => hh c (by simp [hc]))⟩
theorem maysize_eq (n : Int) : darningref4_MaySize.f n = some (decide (2 ≤ n ∧ n ≤ 512)) := by
  unfold darningref4_MaySize.f
  by_cases h2 : n ≥ 2
  · rw [if_pos h2]; congr 1; rw [Bool.eq_iff_iff]; simp only [decide_eq_true_iff]; omega
  · rw [if_neg h2, decide_eq_false (by omega)]
theorem rmayw_eq (n : Int) : darningref4_mayWords.f n = some (decide (8 ≤ n ∧ n ≤ 512 ∧ n % 8 = 0)) := by
  unfold darningref4_mayWords.f
  by_cases h1 : n ≥ 8
  · rw [if_pos h1]
    by_cases h2 : n ≤ 512
    · rw [if_pos h2, tmodp (by omega)]
      congr 1
      rw [Bool.eq_iff_iff, beq_iff_eq, decide_eq_true_iff]
      exact ⟨fun h => ⟨h1, h2, h⟩, fun h => h.2.2⟩
    · rw [if_neg h2, decide_eq_false (by omega)]
  · rw [if_neg h1, decide_eq_false (by omega)]
theorem mayb_l0 {words : Int} (hw : words ≤ 512) (suf : List S35) : ∀ (pre : List S35) (a : Int), 0 ≤ a → a ≤ words → (pre ++ suf).length ≤ 100000 →
    ∃ b, Ev (fun k => darningref4_MayBlocks.l0 k (pre ++ suf) words a (pre ++ suf) ((pre ++ suf).length : Int) (pre.length : Int)) b ∧ (b = true ↔ ChainP words a (frOf pre) suf) := by
  induction suf with
  | nil =>
    intro pre a h0 h1 hl
    refine ⟨a == words, Ev.step (fun k => by rw [darningref4_MayBlocks.l0]) (ev_neg (by simp) (Ev.now _)), ?_⟩
    rw [beq_iff_eq]; exact Iff.rfl
  | cons x suf ih =>
    intro pre a h0 h1 hl
    have e : pre ++ x :: suf = (pre ++ [x]) ++ suf := by simp
    have hlen2 : ((pre ++ [x]).length : Int) = (pre.length : Int) + 1 := by simp
    have hlt : (pre.length : Int) < ((pre ++ x :: suf).length : Int) := by simp; omega
    have w1 : wrap64 ((pre.length : Int) + 1) = (pre.length : Int) + 1 := w64 (by simp at hl; omega)
    have w2 : wrap64 (words - a) = words - a := w64 (by omega)
    by_cases c1 : x.f0 = a
    · by_cases c2 : 2 ≤ x.f1 ∧ x.f1 ≤ 512
      · by_cases c3 : x.f1 > words - a
        · refine ⟨false, Ev.step (fun k => by rw [darningref4_MayBlocks.l0]) ?_, ⟨fun h => (by cases h), fun h => by have := h.2.2.2.1; omega⟩⟩
          rw [rdt_mid, w2]
          exact ev_pos hlt (ev_pos (by omega) (ev_pos hlt (ev_pos c1 (ev_bindc (maysize_eq _) (ev_pos (by simp [c2]) (ev_pos c3 (Ev.now _)))))))
        · have w3 : wrap64 (a + x.f1) = a + x.f1 := w64 (by omega)
          obtain ⟨b, hb, hi⟩ := ih (pre ++ [x]) (a + x.f1) (by omega) (by omega) (by rw [← e]; exact hl)
          rw [hlen2, ← e] at hb
          rw [frOf_snoc] at hi
          by_cases c4 : frOf pre = true ∧ x.f2 = false
          · obtain ⟨m, y, hm, hy⟩ := frOf_pos c4.1
            refine ⟨false, Ev.step (fun k => by rw [darningref4_MayBlocks.l0]) ?_, ⟨fun h => (by cases h), fun h => by have := h.2.2.2.2.1 c4.1; rw [c4.2] at this; cases this⟩⟩
            rw [rdt_mid, w2, w1, w3]
            refine ev_pos hlt (ev_pos (by omega) (ev_pos hlt (ev_pos c1 (ev_bindc (maysize_eq _) (ev_pos (by simp [c2]) (ev_neg c3 ?_))))))
            have hp : 0 < (pre.length : Int) := by rw [hm, List.length_append, List.length_singleton]; omega
            refine ev_pos hp (ev_neg (by rw [c4.2]; decide) ?_)
            have w4 : wrap64 ((pre.length : Int) - 1) = (pre.length : Int) - 1 := w64 (by simp at hl; omega)
            rw [w4]
            refine ev_pos (by omega) (ev_pos (by omega) (ev_neg ?_ (Ev.now _)))
            have e2 : rd_T35 (pre ++ x :: suf) ((pre.length : Int) - 1) = y := by rw [hm]; exact rdt_last m (x :: suf) y
            rw [e2, hy]; decide
          · refine ⟨b, Ev.step (fun k => by rw [darningref4_MayBlocks.l0]) ?_, ?_⟩
            · rw [rdt_mid, w2, w1, w3]
              refine ev_pos hlt (ev_pos (by omega) (ev_pos hlt (ev_pos c1 (ev_bindc (maysize_eq _) (ev_pos (by simp [c2]) (ev_neg c3 ?_))))))
              refine ev_ite (fun hp => ev_ite (fun _ => hb) (fun hu => ?_)) (fun _ => hb)
              have w4 : wrap64 ((pre.length : Int) - 1) = (pre.length : Int) - 1 := w64 (by simp at hl; omega)
              rw [w4]
              refine ev_pos (by omega) (ev_pos (by omega) (ev_pos ?_ hb))
              rcases List.eq_nil_or_concat pre with hn | ⟨m, y, hm⟩
              · subst hn; simp at hp
              · rw [List.concat_eq_append] at hm
                have e2 : rd_T35 (pre ++ x :: suf) ((pre.length : Int) - 1) = y := by rw [hm]; exact rdt_last m (x :: suf) y
                rw [e2]
                have hfr : frOf pre = !y.f2 := by rw [hm, frOf_snoc]
                rw [hfr] at c4
                cases hy : y.f2 with
                | true => rfl
                | false =>
                  exact absurd ⟨by rw [hy]; rfl, by simpa using hu⟩ c4
            · rw [hi]
              constructor
              · intro h
                exact ⟨c1, c2.1, c2.2, by omega, fun hf => by
                  cases hx : x.f2 with
                  | true => rfl
                  | false => exact absurd ⟨hf, hx⟩ c4, h⟩
              · exact fun h => h.2.2.2.2.2
      · refine ⟨false, Ev.step (fun k => by rw [darningref4_MayBlocks.l0]) ?_, ⟨fun h => (by cases h), fun h => absurd ⟨h.2.1, h.2.2.1⟩ c2⟩⟩
        rw [rdt_mid]
        exact ev_pos hlt (ev_pos (by omega) (ev_pos hlt (ev_pos c1 (ev_bindc (maysize_eq _) (ev_neg (by simp; omega) (Ev.now _))))))
    · refine ⟨false, Ev.step (fun k => by rw [darningref4_MayBlocks.l0]) ?_, ⟨fun h => (by cases h), fun h => absurd h.1 c1⟩⟩
      rw [rdt_mid]
      exact ev_pos hlt (ev_pos (by omega) (ev_pos hlt (ev_neg c1 (Ev.now _))))
theorem mayb_ev {l : List S35} (words : Int) (hl : l.length ≤ 100000) : ∃ b, Ev (fun k => darningref4_MayBlocks.f k l words) b ∧ (b = true ↔ MayB l words) := by
  unfold darningref4_MayBlocks.f
  by_cases h : 8 ≤ words ∧ words ≤ 512 ∧ words % 8 = 0
  · obtain ⟨b, hb, hi⟩ := mayb_l0 h.2.1 l [] 0 (by omega) (by omega) hl
    refine ⟨b, ev_bindc (rmayw_eq words) (ev_pos (by simp [h]) hb), hi.trans ⟨fun hh => ⟨h, hh⟩, fun hh => hh.2⟩⟩
  · exact ⟨false, ev_bindc (rmayw_eq words) (ev_neg (by simpa using h) (Ev.now _)), ⟨fun hh => (by cases hh), fun hh => absurd hh.1 h⟩⟩
theorem mayb_yes {l : List S35} {words : Int} (hl : l.length ≤ 100000) (h : MayB l words) : Ev (fun k => darningref4_MayBlocks.f k l words) true := by
  obtain ⟨b, hb, hi⟩ := mayb_ev words hl
  rwa [hi.2 h] at hb
theorem mayb_no {l : List S35} {words : Int} (hl : l.length ≤ 100000) (h : ¬ MayB l words) : Ev (fun k => darningref4_MayBlocks.f k l words) false := by
  obtain ⟨b, hb, hi⟩ := mayb_ev words hl
  cases b with
  | true => exact absurd (hi.1 rfl) h
  | false => exact hb
def sumS : List S35 → Int
  | [] => 0
  | b :: l => b.f1 + sumS l
/-- What is behind some blocks of blocks side by side. -/
theorem chain_app {words : Int} (suf : List S35) (pre : List S35) : ∀ {a : Int} {fr : Bool}, ChainP words a fr (pre ++ suf) → ∃ fr', ChainP words (a + sumS pre) fr' suf := by
  induction pre with
  | nil => intro a fr h; exact ⟨fr, by show ChainP words (a + 0) fr suf; rw [Int.add_zero]; exact h⟩
  | cons b pre ih =>
    intro a fr h
    obtain ⟨c0, c1, c2, c3, c4, c5⟩ := h
    obtain ⟨fr', h'⟩ := ih c5
    refine ⟨fr', ?_⟩
    show ChainP words (a + (b.f1 + sumS pre)) fr' suf
    rw [← Int.add_assoc]; exact h'
theorem chain_total {words : Int} (l : List S35) {a : Int} {fr : Bool} (h : ChainP words a fr l) : words = a + sumS l := by
  obtain ⟨fr', h'⟩ := chain_app [] l (by rw [List.append_nil]; exact h)
  have h' : a + sumS l = words := h'
  omega
theorem set_mid (pre suf : List S35) (x y : S35) : (pre ++ x :: suf).set pre.length y = pre ++ y :: suf := by
  rw [List.set_append, if_neg (by omega), Nat.sub_self, List.set_cons_zero]
theorem split_two {l : List S35} {j : Int} (h0 : 0 ≤ j) (h1 : j + 1 < l.length) : ∃ pre x y suf, l = pre ++ x :: y :: suf ∧ (pre.length : Int) = j := by
  refine ⟨l.take j.toNat, l[j.toNat]'(by omega), l[j.toNat + 1]'(by omega), l.drop (j.toNat + 2), ?_, by rw [List.length_take]; omega⟩
  rw [← List.drop_eq_getElem_cons (by omega), ← List.drop_eq_getElem_cons (by omega)]
  exact (List.take_append_drop _ _).symm
theorem same_l0 {l m : List S35} (hl : l.length = m.length) (hlen : l.length ≤ 100000) (suf : List S35) : ∀ (pre suf2 : List S35), l = pre ++ suf → m = pre ++ suf2 →
    ∃ b, Ev (fun k => darningref4_SameBlocks.l0 k l m (l.length : Int) (pre.length : Int)) b ∧ (b = true ↔ suf = suf2) := by
  induction suf with
  | nil =>
    intro pre suf2 h1 h2
    have : suf2 = [] := by
      rw [h1, h2] at hl
      cases suf2 with
      | nil => rfl
      | cons x s => simp at hl
    subst this
    exact ⟨true, Ev.step (fun k => by rw [darningref4_SameBlocks.l0]) (ev_neg (by rw [h1]; simp) (Ev.now _)), by simp⟩
  | cons x suf ih =>
    intro pre suf2 h1 h2
    cases suf2 with
    | nil => rw [h1, h2] at hl; simp at hl
    | cons y suf2 =>
      have hlt : (pre.length : Int) < (l.length : Int) := by rw [h1]; simp; omega
      have em : rd_T35 l (pre.length : Int) = x := by rw [h1]; exact rdt_mid pre suf x
      have em2 : rd_T35 m (pre.length : Int) = y := by rw [h2]; exact rdt_mid pre suf2 y
      have w1 : wrap64 ((pre.length : Int) + 1) = ((pre ++ [x]).length : Int) := by rw [w64 (by omega)]; simp
      by_cases c : x = y
      · subst c
        obtain ⟨b, hb, hi⟩ := ih (pre ++ [x]) suf2 (by rw [h1]; simp) (by rw [h2]; simp)
        refine ⟨b, Ev.step (fun k => by rw [darningref4_SameBlocks.l0]) ?_, hi.trans (by simp)⟩
        rw [em, em2, w1]
        exact ev_pos hlt (ev_pos (by omega) (ev_pos hlt (ev_pos (by omega) (ev_neg (by simp) hb))))
      · refine ⟨false, Ev.step (fun k => by rw [darningref4_SameBlocks.l0]) ?_, ⟨fun h => (by cases h), fun h => absurd (List.cons.inj h).1 c⟩⟩
        rw [em, em2]
        refine ev_pos hlt (ev_pos (by omega) (ev_pos hlt (ev_pos (by omega) (ev_pos ?_ (Ev.now _)))))
        by_cases c0 : x.f0 = y.f0
        · by_cases c1 : x.f1 = y.f1
          · by_cases c2 : x.f2 = y.f2
            · exact absurd (blk_ext c0 c1 c2) c
            · simp [c2]
          · simp [c1]
        · simp [c0]
theorem sameb_ev {l m : List S35} (hlen : l.length ≤ 100000) : ∃ b, Ev (fun k => darningref4_SameBlocks.f k l m) b ∧ (b = true ↔ l = m) := by
  unfold darningref4_SameBlocks.f
  by_cases h : l.length = m.length
  · obtain ⟨b, hb, hi⟩ := same_l0 h hlen l [] m rfl rfl
    exact ⟨b, ev_pos (by omega) hb, hi⟩
  · exact ⟨false, ev_neg (by omega) (Ev.now _), ⟨fun h => (by cases h), fun e => absurd (by rw [e]) h⟩⟩
theorem sameb_yes {l : List S35} (hlen : l.length ≤ 100000) : Ev (fun k => darningref4_SameBlocks.f k l l) true := by
  obtain ⟨b, hb, hi⟩ := sameb_ev (l := l) (m := l) hlen
  rwa [hi.2 rfl] at hb
theorem rword_eq (n : Int) (u : Bool) : darningref4_Word.f n u = block_Word.f n u := rfl
theorem rd_set {t : List Int} {i : Nat} (v j : Int) (hi : i < t.length) : rd (t.set i v) j = if j.toNat = i then v else rd t j := by
  unfold rd
  rw [List.getD_eq_getElem?_getD, List.getElem?_set, List.getD_eq_getElem?_getD]
  by_cases h : i = j.toNat
  · rw [if_pos h, if_pos (by omega), if_pos h.symm]; rfl
  · rw [if_neg h, if_neg (fun e => h e.symm)]
theorem rd_rep (n : Nat) (j : Int) : rd (List.replicate n 0) j = 0 := by
  unfold rd
  rw [List.getD_eq_getElem?_getD, List.getElem?_replicate]
  by_cases h : j.toNat < n
  · rw [if_pos h]; rfl
  · rw [if_neg h]; rfl
/-- Words in which the headers of blocks stand, and beside them what stood there. -/
def Heads (w v : List Int) (l : List S35) : Prop :=
  v.length = w.length ∧ (∀ b ∈ l, rd v b.f0 = headOf b) ∧ ∀ j : Int, 0 ≤ j → (∀ b ∈ l, j ≠ b.f0) → rd v j = rd w j
theorem words_l0 {words : Int} (_hwd : words ≤ 512) (l : List S35) (hl : l.length ≤ 100000) (suf : List S35) : ∀ (pre : List S35) (a : Int) (fr : Bool) (w : List Int), l = pre ++ suf → 0 ≤ a → ChainP words a fr suf → (w.length : Int) = words →
    ∃ v, Ev (fun k => darninglaw14_Words.l0 k w l (l.length : Int) (pre.length : Int)) v ∧ Heads w v suf := by
  induction suf with
  | nil =>
    intro pre a fr w he h0 hC hw
    exact ⟨w, Ev.step (fun k => by rw [darninglaw14_Words.l0]) (ev_neg (by rw [he]; simp) (Ev.now _)), rfl, fun b hb => absurd hb (by simp), fun j _ _ => rfl⟩
  | cons x suf ih =>
    intro pre a fr w he h0 hC hw
    have hlt : (pre.length : Int) < (l.length : Int) := by rw [he]; simp; omega
    have em : rd_T35 l (pre.length : Int) = x := by rw [he]; exact rdt_mid pre suf x
    have w1 : wrap64 ((pre.length : Int) + 1) = ((pre ++ [x]).length : Int) := by rw [w64 (by omega)]; simp
    have he2 : l = (pre ++ [x]) ++ suf := by rw [he]; simp
    obtain ⟨c0, c1, c2, c3, c4, c5⟩ := hC
    obtain ⟨v, hv, v1, v2, v3⟩ := ih (pre ++ [x]) (a + x.f1) (!x.f2) (w.set x.f0.toNat (headOf x)) he2 (by omega) c5 (by rw [List.length_set]; exact hw)
    have hup : ∀ b ∈ suf, x.f0 < b.f0 := fun b hb => by have := chain_mem c5 b hb; omega
    refine ⟨v, Ev.step (fun k => by rw [darninglaw14_Words.l0]) ?_, by rw [v1, List.length_set], fun b hb => ?_, fun j j0 hj => ?_⟩
    · rw [em, w1, rword_eq, word_eq, if_pos ⟨c1, c2⟩]
      exact ev_pos hlt (ev_pos (by omega) (ev_pos hlt (ev_pos (by omega) (ev_pos (by omega) (ev_bindc rfl (ev_pos (by omega) hv))))))
    · rcases List.mem_cons.1 hb with hb | hb
      · rw [hb, v3 x.f0 (by omega) (fun c hc => by have := hup c hc; omega), rd_set _ _ (by omega), if_pos rfl]
      · exact v2 b hb
    · rw [v3 j j0 (fun b hb => hj b (by simp [hb])), rd_set _ _ (by omega), if_neg (by have := hj x (by simp); omega)]
theorem words_ev {l : List S35} {words : Int} (hl : l.length ≤ 100000) (h : MayB l words) : ∃ v, Ev (fun k => darninglaw14_Words.f k l words) v ∧ Heads (List.replicate words.toNat 0) v l := by
  have hw := h.1
  unfold MayW at hw
  have e : mx 0 (mn words 512) = words := by unfold mx mn; (repeat' split) <;> omega
  unfold darninglaw14_Words.f
  rw [e]
  obtain ⟨v, h1, h2⟩ := words_l0 hw.2.1 l hl l [] 0 false (List.replicate words.toNat 0) rfl (Int.le_refl _) h.2 (by simp; omega)
  exact ⟨v, ev_pos (by omega) (ev_pos (by omega) h1), h2⟩
theorem heads_wds {l : List S35} {words : Int} {v : List Int} (h : MayB l words) (hv : Heads (List.replicate words.toNat 0) v l) : Wds v ∧ (v.length : Int) = words := by
  have hw := h.1
  unfold MayW at hw
  have hlen : (v.length : Int) = words := by rw [hv.1, List.length_replicate]; omega
  refine ⟨⟨by omega, fun j => ?_⟩, hlen⟩
  by_cases hj : 0 ≤ j
  · by_cases hb : ∃ b ∈ l, j = b.f0
    · obtain ⟨b, hb, rfl⟩ := hb
      have := chain_mem h.2 b hb
      rw [hv.2.1 b hb]
      unfold headOf
      cases b.f2
      · rw [if_neg (by decide)]; omega
      · rw [if_pos rfl]; omega
    · rw [hv.2.2 j hj (fun b hb2 e => hb ⟨b, hb2, e⟩), rd_rep]; omega
  · have e : rd v j = rd v 0 := by unfold rd; rw [show j.toNat = (0 : Int).toNat from by omega]
    rw [e]
    by_cases hb : ∃ b ∈ l, (0 : Int) = b.f0
    · obtain ⟨b, hb, hb0⟩ := hb
      have := chain_mem h.2 b hb
      rw [hb0, hv.2.1 b hb]
      unfold headOf
      cases b.f2
      · rw [if_neg (by decide)]; omega
      · rw [if_pos rfl]; omega
    · rw [hv.2.2 0 (by omega) (fun b hb2 e => hb ⟨b, hb2, e⟩), rd_rep]; omega
/-- The blocks of words in which the headers of blocks stand. -/
theorem heads_blocks {l : List S35} {words : Int} {v : List Int} (h : MayB l words) (hv : Heads (List.replicate words.toNat 0) v l) : Ev (fun k => chain_Blocks.f k v) (l, true) := by
  obtain ⟨hW, hlen⟩ := heads_wds h hv
  exact blocks_yes hW (parse_of (fr := false) (by rw [hlen]; exact h.2) hv.2.1) (by rw [hlen]; exact h)
/-- A word that is no header where a block began: no blocks are read. -/
theorem parse_bad {v : List Int} {words : Int} (b : S35) (suf : List S35) (hb : ¬ (2 ≤ rd v b.f0 / 2 ∧ rd v b.f0 / 2 ≤ 512)) (hv : (v.length : Int) = words) (pre : List S35) : ∀ {a : Int} {fr : Bool}, ChainP words a fr (pre ++ b :: suf) → (∀ c ∈ pre, rd v c.f0 = headOf c) → ∀ m, ¬ ParseP v a m := by
  induction pre with
  | nil =>
    intro a fr h hp m hm
    obtain ⟨c0, c1, c2, c3, c4, c5⟩ := h
    cases m with
    | nil => have hm : (v.length : Int) ≤ a := hm; omega
    | cons c m =>
      obtain ⟨m0, m1, m2, m3, _⟩ := hm
      rw [← c0] at m2 m3
      exact hb ⟨m2, m3⟩
  | cons p pre ih =>
    intro a fr h hp m hm
    obtain ⟨c0, c1, c2, c3, c4, c5⟩ := h
    cases m with
    | nil => have hm : (v.length : Int) ≤ a := hm; omega
    | cons c m =>
      obtain ⟨m0, m1, m2, m3, m4, m5, m6⟩ := hm
      have hh := hp p (by simp)
      rw [c0] at hh
      rw [hh, (head_r p).1] at m4
      rw [m4] at m6
      exact ih c5 (fun q hq => hp q (by simp [hq])) m m6
/-- The last header is of a greater block: what is read reaches beyond the end. -/
theorem parse_over {v : List Int} {words : Int} (b : S35) (hb : b.f1 < rd v b.f0 / 2) (hv : (v.length : Int) = words) (pre : List S35) : ∀ {a : Int} {fr : Bool}, ChainP words a fr (pre ++ [b]) → (∀ c ∈ pre, rd v c.f0 = headOf c) → ∀ (m : List S35) (fr2 : Bool), ParseP v a m → ¬ ChainP words a fr2 m := by
  induction pre with
  | nil =>
    intro a fr h hp m fr2 hm hC
    obtain ⟨c0, c1, c2, c3, c4, c5⟩ := h
    have c5 : a + b.f1 = words := c5
    cases m with
    | nil => have hm : (v.length : Int) ≤ a := hm; omega
    | cons c m =>
      obtain ⟨m0, m1, m2, m3, m4, _⟩ := hm
      rw [← c0] at m4
      have := hC.2.2.2.1
      omega
  | cons p pre ih =>
    intro a fr h hp m fr2 hm hC
    obtain ⟨c0, c1, c2, c3, c4, c5⟩ := h
    cases m with
    | nil => have hm : (v.length : Int) ≤ a := hm; omega
    | cons c m =>
      obtain ⟨m0, m1, m2, m3, m4, m5, m6⟩ := hm
      have hh := hp p (by simp)
      rw [c0] at hh
      rw [hh, (head_r p).1] at m4
      obtain ⟨d0, d1, d2, d3, d4, d5⟩ := hC
      rw [m4] at m6 d5
      exact ih c5 (fun q hq => hp q (by simp [hq])) m _ m6 d5
theorem split_at {l : List S35} {j : Int} (h0 : 0 ≤ j) (h1 : j < l.length) : l = l.take j.toNat ++ rd_T35 l j :: l.drop (j.toNat + 1) := by
  obtain ⟨h, e⟩ := rdt_get h0 h1
  rw [e, ← List.drop_eq_getElem_cons h]
  exact (List.take_append_drop _ _).symm
theorem wds_set {v : List Int} {i : Nat} {x : Int} (hv : Wds v) (h0 : 0 ≤ x) (h1 : x ≤ 18446744073709551615) : Wds (v.set i x) := by
  refine ⟨by rw [List.length_set]; exact hv.1, fun j => ?_⟩
  by_cases hi : i < v.length
  · rw [rd_set x j hi]
    by_cases h : j.toNat = i
    · rw [if_pos h]; exact ⟨h0, h1⟩
    · rw [if_neg h]; exact hv.2 j
  · rw [List.set_eq_of_length_le (by omega)]; exact hv.2 j
/-- What stands ahead of a list behind some blocks: a free one? -/
def lastFr : Bool → List S35 → Bool
  | fr, [] => fr
  | _, b :: l => lastFr (!b.f2) l
theorem lastFr_app (P R : List S35) : ∀ fr, lastFr fr (P ++ R) = lastFr (lastFr fr P) R := by
  induction P with
  | nil => intro fr; rfl
  | cons b P ih => intro fr; exact ih _
theorem sumS_app (P R : List S35) : sumS (P ++ R) = sumS P + sumS R := by
  induction P with
  | nil => show sumS R = 0 + sumS R; omega
  | cons b P ih => show b.f1 + sumS (P ++ R) = (b.f1 + sumS P) + sumS R; rw [ih]; omega
theorem chain_snd {words : Int} (P R : List S35) : ∀ {a : Int} {fr : Bool}, ChainP words a fr (P ++ R) → ChainP words (a + sumS P) (lastFr fr P) R := by
  induction P with
  | nil => intro a fr h; show ChainP words (a + 0) fr R; rw [Int.add_zero]; exact h
  | cons b P ih =>
    intro a fr h
    obtain ⟨h0, h1, h2, h3, h4, h5⟩ := h
    have := ih h5
    show ChainP words (a + (b.f1 + sumS P)) (lastFr (!b.f2) P) R
    rw [← Int.add_assoc]; exact this
theorem chain_re {words : Int} (P R R' : List S35) : ∀ {a : Int} {fr : Bool}, ChainP words a fr (P ++ R) → ChainP words (a + sumS P) (lastFr fr P) R' → ChainP words a fr (P ++ R') := by
  induction P with
  | nil => intro a fr _ h; have h : ChainP words (a + 0) fr R' := h; rw [Int.add_zero] at h; exact h
  | cons b P ih =>
    intro a fr h h'
    obtain ⟨h0, h1, h2, h3, h4, h5⟩ := h
    have h' : ChainP words (a + (b.f1 + sumS P)) (lastFr (!b.f2) P) R' := h'
    rw [← Int.add_assoc] at h'
    exact ⟨h0, h1, h2, h3, h4, ih h5 h'⟩
theorem chain_fr {words : Int} {Q : List S35} {a : Int} {fr : Bool} (fr2 : Bool) (h : ChainP words a fr Q) (hq : ∀ q Q', Q = q :: Q' → q.f2 = true) : ChainP words a fr2 Q := by
  cases Q with
  | nil => exact h
  | cons q Q =>
    obtain ⟨h0, h1, h2, h3, h4, h5⟩ := h
    exact ⟨h0, h1, h2, h3, fun _ => hq q Q rfl, h5⟩
theorem sumS_nn {words : Int} (P R : List S35) {a : Int} {fr : Bool} (h : ChainP words a fr (P ++ R)) : 2 * (P.length : Int) ≤ sumS P ∧ a + sumS P + 2 * R.length ≤ words := by
  constructor
  · have : ∀ b ∈ P, 2 ≤ b.f1 := fun b hb => (chain_mem h b (List.mem_append_left _ hb)).2.1
    clear h
    induction P with
    | nil => show 2 * ((0 : Nat) : Int) ≤ 0; omega
    | cons b P ih =>
      have h1 := ih (fun c hc => this c (List.mem_cons_of_mem _ hc))
      have h2 := this b List.mem_cons_self
      show 2 * (((P.length + 1 : Nat)) : Int) ≤ b.f1 + sumS P
      omega
  · exact chain_len (chain_snd P R h)
/-- Some blocks in the midst made one free one. -/
theorem chain_join {words : Int} {P M Q : List S35} {x : S35} {a : Int} {fr : Bool} (hw : words ≤ 512) (ha : 0 ≤ a) (h : ChainP words a fr (P ++ (x :: M) ++ Q)) (hp : lastFr fr P = false)
    (hq : ∀ q Q', Q = q :: Q' → q.f2 = true) : x.f0 = a + sumS P ∧ ChainP words a fr (P ++ (⟨x.f0, sumS (x :: M), false⟩ : S35) :: Q) := by
  rw [List.append_assoc] at h
  have h1 := chain_snd P _ h
  rw [hp] at h1
  have n1 := sumS_nn P _ h
  have n2 := sumS_nn (x :: M) Q h1
  have e0 : x.f0 = a + sumS P := h1.1
  refine ⟨e0, chain_re P _ _ h ?_⟩
  rw [hp]
  simp only [List.length_cons] at n2
  refine ⟨e0, by show 2 ≤ sumS (x :: M); omega, by show sumS (x :: M) ≤ 512; omega, by show sumS (x :: M) ≤ words - (a + sumS P); omega, (fun hf => nomatch hf), ?_⟩
  exact chain_fr true (chain_snd (x :: M) Q h1) hq
/-- The blocks may be, of as many words as they have. -/
def IsB (l : List S35) : Prop := MayB l (sumS l)
theorem isb_of {l : List S35} {w : Int} (h : MayB l w) : w = sumS l := by have := chain_total l h.2; omega
theorem mayb0 (l : List S35) : ¬ MayB l 0 := by
  intro h
  have := h.1
  unfold MayW at this
  omega
-- sums of sizes, as the program and the reference count them
theorem cwords_l0 (l : List S35) (hl : l.length ≤ 100000) (suf : List S35) : ∀ pre : List S35, l = pre ++ suf → (∀ b ∈ pre, 2 ≤ b.f1 ∧ b.f1 ≤ 512) → 0 ≤ sumS pre → sumS pre ≤ 1024 →
    ∃ t, Ev (fun k => carve_words.l0 k (sumS pre) l (l.length : Int) (pre.length : Int)) t ∧ ((∃ w, MayB l w) → t = sumS l) ∧ (t = sumS l ∨ t = 0) ∧ ((∀ b ∈ l, 2 ≤ b.f1 ∧ b.f1 ≤ 512) → sumS l ≤ 512 → t = sumS l) := by
  induction suf with
  | nil =>
    intro pre e hp h0 h1
    rw [List.append_nil] at e
    subst e
    exact ⟨sumS l, Ev.step (fun k => by rw [carve_words.l0]) (ev_neg (by simp) (Ev.now _)), fun _ => rfl, .inl rfl, fun _ _ => rfl⟩
  | cons x suf ih =>
    intro pre e hp h0 h1
    have hlt : (pre.length : Int) < (l.length : Int) := by rw [e]; simp; omega
    have ex : rd_T35 l (pre.length : Int) = x := by rw [e]; exact rdt_mid pre suf x
    by_cases c1 : 2 ≤ x.f1 ∧ x.f1 ≤ 512
    · by_cases c2 : sumS pre > 512
      · have big : (∀ b ∈ l, 2 ≤ b.f1 ∧ b.f1 ≤ 512) → ¬ sumS l ≤ 512 := by
          intro hb hs
          rw [e, sumS_app] at hs
          have : ∀ m : List S35, (∀ b ∈ m, 2 ≤ b.f1 ∧ b.f1 ≤ 512) → 0 ≤ sumS m := by
            intro m
            induction m with
            | nil => intro _; exact Int.le_refl _
            | cons c m ihm => intro hc; have q1 := hc c List.mem_cons_self; have q2 := ihm (fun d hd => hc d (List.mem_cons_of_mem _ hd)); show 0 ≤ c.f1 + sumS m; omega
          have q := this (x :: suf) (fun b hb' => hb b (by rw [e]; exact List.mem_append_right _ hb'))
          omega
        refine ⟨0, Ev.step (fun k => by rw [carve_words.l0]) ?_, fun ⟨w, hw⟩ => ?_, .inr rfl, fun hb hs => absurd hs (big hb)⟩
        · rw [ex]
          exact ev_pos hlt (ev_pos (by omega) (ev_pos hlt (ev_bindc (bmay_eq _) (ev_pos (by simp [c1]) (ev_pos c2 (Ev.now _))))))
        · have ht := chain_total l hw.2
          have hw1 := hw.1
          unfold MayW at hw1
          exact absurd (by omega : sumS l ≤ 512) (big (fun b hb => ⟨(chain_mem hw.2 b hb).2.1, (chain_mem hw.2 b hb).2.2.1⟩))
      · obtain ⟨t, ht, hi⟩ := ih (pre ++ [x]) (by rw [e]; simp) (by
          intro b hb
          rcases List.mem_append.1 hb with hb | hb
          · exact hp b hb
          · rw [List.mem_singleton.1 hb]; exact c1) (by rw [sumS_app]; show 0 ≤ sumS pre + (x.f1 + 0); omega) (by rw [sumS_app]; show sumS pre + (x.f1 + 0) ≤ 1024; omega)
        have es : sumS (pre ++ [x]) = sumS pre + x.f1 := by rw [sumS_app]; show sumS pre + (x.f1 + 0) = _; omega
        refine ⟨t, Ev.step (fun k => by rw [carve_words.l0]) ?_, hi⟩
        rw [ex, w64 (n := sumS pre + x.f1) (by omega), w64 (n := (pre.length : Int) + 1) (by omega)]
        refine ev_pos hlt (ev_pos (by omega) (ev_pos hlt (ev_bindc (bmay_eq _) (ev_pos (by simp [c1]) (ev_neg c2 ?_)))))
        rw [es] at ht
        simpa using ht
    · refine ⟨0, Ev.step (fun k => by rw [carve_words.l0]) ?_, fun ⟨w, hw⟩ => ?_, .inr rfl, fun hb _ => absurd (hb x (by rw [e]; simp)) c1⟩
      · rw [ex]
        exact ev_pos hlt (ev_pos (by omega) (ev_pos hlt (ev_bindc (bmay_eq _) (ev_neg (by simp; omega) (Ev.now _)))))
      · have := chain_mem hw.2 x (by rw [e]; simp)
        omega
theorem cwords_ev {l : List S35} (hl : l.length ≤ 100000) : ∃ t, Ev (fun k => carve_words.f k l) t ∧ ((∃ w, MayB l w) → t = sumS l) ∧ (t = sumS l ∨ t = 0) ∧ ((∀ b ∈ l, 2 ≤ b.f1 ∧ b.f1 ≤ 512) → sumS l ≤ 512 → t = sumS l) :=
  cwords_l0 l hl l [] rfl (fun b hb => nomatch hb) (Int.le_refl _) (by show (0 : Int) ≤ 1024; omega)
theorem cwords_sum {l : List S35} (hl : l.length ≤ 100000) (h : ∀ b ∈ l, 2 ≤ b.f1 ∧ b.f1 ≤ 512) (hs : sumS l ≤ 512) : Ev (fun k => carve_words.f k l) (sumS l) := by
  obtain ⟨t, ht, _, _, h3⟩ := cwords_ev hl
  rwa [h3 h hs] at ht
/-- What is taken of a free block of s words. -/
def tk (s need : Int) : Int := if need < 2 ∨ need > s then 0 else if s - need < 2 then s else need
theorem takes_ev {s n : Int} (hs : 2 ≤ s ∧ s ≤ 512) : Ev (fun k => fit_Takes.f k s n) (tk s n) := by
  unfold fit_Takes.f tk
  by_cases c : n < 2
  · rw [if_pos (.inl c)]
    refine ev_pos c (Ev.step (fun k => by rw [fit_Takes.j0]) (ev_pos rfl (Ev.now _)))
  · refine ev_neg c ?_
    by_cases d : n > s
    · rw [if_pos (.inr d), decide_eq_true d]
      exact Ev.step (fun k => by rw [fit_Takes.j0]) (ev_pos rfl (Ev.now _))
    · rw [if_neg (by omega), decide_eq_false d]
      refine Ev.step (fun k => by rw [fit_Takes.j0]) (ev_neg (by decide) ?_)
      rw [w64 (n := s - n) (by omega)]
      refine ev_ite (fun e => ?_) (fun e => ?_)
      · rw [if_pos e]; exact Ev.now _
      · rw [if_neg e]; exact Ev.now _
theorem tk_r {s n : Int} (h : tk s n ≠ 0) (hs : 2 ≤ s) : 2 ≤ tk s n ∧ tk s n ≤ s ∧ (tk s n < s → 2 ≤ s - tk s n) ∧ 2 ≤ n ∧ n ≤ tk s n := by
  unfold tk at h ⊢
  split at h
  · exact absurd rfl h
  · rename_i c
    rw [if_neg c]
    split <;> omega
theorem tk_zero {s n : Int} (hs : 2 ≤ s) : tk s n = 0 ↔ (n < 2 ∨ n > s) := by
  unfold tk
  split
  · rename_i c; exact ⟨fun _ => c, fun _ => rfl⟩
  · rename_i c
    split
    · exact ⟨fun h => by omega, fun h => absurd h c⟩
    · exact ⟨fun h => by omega, fun h => absurd h c⟩
def CanC (l : List S35) (i need : Int) : Prop := IsB l ∧ 0 ≤ i ∧ i < l.length ∧ (rd_T35 l i).f2 = false ∧ tk (rd_T35 l i).f1 need ≠ 0
def tkn (b : S35) (need : Int) : List S35 := ⟨b.f0, tk b.f1 need, true⟩ :: (if tk b.f1 need < b.f1 then [⟨b.f0 + tk b.f1 need, b.f1 - tk b.f1 need, false⟩] else [])
def crv (l : List S35) (i need : Int) : List S35 := l.take i.toNat ++ tkn (rd_T35 l i) need ++ l.drop (i.toNat + 1)
theorem isb_rd {l : List S35} {i : Int} (h : IsB l) (h0 : 0 ≤ i) (h1 : i < l.length) : 0 ≤ (rd_T35 l i).f0 ∧ 2 ≤ (rd_T35 l i).f1 ∧ (rd_T35 l i).f1 ≤ 512 ∧ (rd_T35 l i).f0 + (rd_T35 l i).f1 ≤ 512 := by
  have := chain_rd h.2 h0 h1
  have hw := h.1
  unfold MayW at hw
  omega
theorem taken_yes {l : List S35} {i need : Int} (hl : l.length ≤ 100000) (h : CanC l i need) : Ev (fun k => carve_taken.f k l i need) (tkn (rd_T35 l i) need) := by
  obtain ⟨h1, h2, h3, h4, h5⟩ := h
  have hr := isb_rd h1 h2 h3
  have ht := tk_r h5 hr.2.1
  unfold carve_taken.f
  obtain ⟨t, hw, hi, _⟩ := cwords_ev hl
  rw [hi ⟨_, h1⟩] at hw
  refine ev_bind hw (ev_bind (cmay_yes hl h1) (ev_pos rfl (ev_neg (by omega) (ev_neg (by omega) (ev_pos h2 (ev_pos h3 ?_))))))
  rw [h4]
  refine Ev.step (fun k => by rw [carve_taken.j0]) ?_
  refine ev_neg (by decide) (ev_pos h2 (ev_pos h3 (ev_bind (takes_ev ⟨by omega, by omega⟩) (ev_neg h5 (ev_bindc rfl ?_)))))
  rw [w64 (n := (rd_T35 l i).f0 + tk (rd_T35 l i).f1 need) (by omega), w64 (n := (rd_T35 l i).f1 - tk (rd_T35 l i).f1 need) (by omega)]
  unfold tkn
  refine ev_ite (fun c => ev_pos (by simp) ?_) (fun c => ?_)
  · rw [if_pos c]; exact Ev.now _
  · rw [if_neg c]; exact Ev.now _
theorem taken_no {l : List S35} {i need : Int} (hl : l.length ≤ 100000) (h : ¬ CanC l i need) : Ev (fun k => carve_taken.f k l i need) [] := by
  unfold carve_taken.f
  obtain ⟨t, ht, hi, ho, _⟩ := cwords_ev hl
  have out : Ev (fun k => carve_taken.j0 k l i need true) [] := by
    refine Ev.step (fun k => by rw [carve_taken.j0]) ?_
    exact ev_pos rfl (Ev.now _)
  refine ev_bind ht ?_
  by_cases hm : MayB l t
  · have e : t = sumS l := isb_of hm
    have hB : IsB l := by unfold IsB; rw [← e]; exact hm
    refine ev_bind (cmay_yes hl hm) (ev_pos rfl (ev_ite (fun _ => out) (fun c1 => ev_ite (fun _ => out) (fun c2 => ev_pos (by omega) (ev_pos (by omega) ?_)))))
    cases hu : (rd_T35 l i).f2 with
    | true => exact out
    | false =>
      have hr := isb_rd hB (i := i) (by omega) (by omega)
      have hz : tk (rd_T35 l i).f1 need = 0 := by
        by_cases hz : tk (rd_T35 l i).f1 need = 0
        · exact hz
        · exact absurd ⟨hB, by omega, by omega, hu, hz⟩ h
      refine Ev.step (fun k => by rw [carve_taken.j0]) ?_
      exact ev_neg (by decide) (ev_pos (by omega) (ev_pos (by omega) (ev_bind (takes_ev ⟨by omega, by omega⟩) (ev_pos hz (Ev.now _)))))
  · exact ev_bind (cmay_no hl hm) (ev_neg (by decide) out)
theorem tkn_len (b : S35) (need : Int) : 1 ≤ (tkn b need).length ∧ (tkn b need).length ≤ 2 := by
  unfold tkn
  split <;> simp
-- slices.Concat of three
theorem grow_eq {n : Int} (h0 : 0 ≤ n) (h1 : n ≤ 1000000) : api_Block_81.f n = some [] := by
  unfold api_Block_81.f
  rw [w64 (by omega), if_neg (by omega)]
  by_cases c : n > 0
  · rw [if_pos c, if_pos h0, if_pos (by simp only [List.length_nil]; omega), Option.bind_some, if_pos (Int.natCast_nonneg _)]
    simp
  · rw [if_neg c]
theorem concat_ev (a b c : List S35) (h : a.length + b.length + c.length ≤ 100000) : Ev (fun k => api_Block_59.f k [a, b, c]) (a ++ b ++ c) := by
  unfold api_Block_59.f
  have L : (([a, b, c] : List (List S35)).length : Int) = 3 := rfl
  have r0 : rd_L3 [a, b, c] 0 = a := rfl
  have r1 : rd_L3 [a, b, c] 1 = b := rfl
  have r2 : rd_L3 [a, b, c] 2 = c := rfl
  rw [L]
  have w1 : wrap64 ((0 : Int) + 1) = 1 := w64 (by decide)
  have w2 : wrap64 ((1 : Int) + 1) = 2 := w64 (by decide)
  have w3 : wrap64 ((2 : Int) + 1) = 3 := w64 (by decide)
  have hl : (([a, b, c] : List (List S35)).length : Int) = 3 := rfl
  refine Ev.step (fun k => by rw [api_Block_59.l0]) ?_
  rw [r0, w1, hl, w64 (n := (0 : Int) + (a.length : Int)) (by omega)]
  refine ev_pos (by decide) (ev_pos (by decide) (ev_pos (by decide) (ev_neg (by omega) ?_)))
  refine Ev.step (fun k => by rw [api_Block_59.l0]) ?_
  rw [r1, w2, hl, w64 (n := (0 : Int) + (a.length : Int) + (b.length : Int)) (by omega)]
  refine ev_pos (by decide) (ev_pos (by decide) (ev_pos (by decide) (ev_neg (by omega) ?_)))
  refine Ev.step (fun k => by rw [api_Block_59.l0]) ?_
  rw [r2, w3, hl, w64 (n := (0 : Int) + (a.length : Int) + (b.length : Int) + (c.length : Int)) (by omega)]
  refine ev_pos (by decide) (ev_pos (by decide) (ev_pos (by decide) (ev_neg (by omega) ?_)))
  refine Ev.step (fun k => by rw [api_Block_59.l0]) ?_
  refine ev_neg (by decide) (ev_bindc (grow_eq (by omega) (by omega)) ?_)
  rw [hl]
  refine Ev.step (fun k => by rw [api_Block_59.l1]) ?_
  rw [r0, w1, hl]
  refine ev_pos (by decide) (ev_pos (by decide) (ev_pos (by decide) (ev_pos (by simp only [List.length_nil]; omega) ?_)))
  refine Ev.step (fun k => by rw [api_Block_59.l1]) ?_
  rw [r1, w2, hl, List.nil_append]
  refine ev_pos (by decide) (ev_pos (by decide) (ev_pos (by decide) (ev_pos (by omega) ?_)))
  refine Ev.step (fun k => by rw [api_Block_59.l1]) ?_
  rw [r2, w3, hl]
  refine ev_pos (by decide) (ev_pos (by decide) (ev_pos (by decide) (ev_pos (by rw [List.length_append]; omega) ?_)))
  refine Ev.step (fun k => by rw [api_Block_59.l1]) ?_
  exact ev_neg (by decide) (Ev.now _)
theorem cblocks_yes {l : List S35} {i need : Int} (hl : l.length ≤ 1000) (h : CanC l i need) : Ev (fun k => carve_Blocks.f k l i need) (crv l i need, true) := by
  have hn := tkn_len (rd_T35 l i) need
  have h2 := h.2.1
  have h3 := h.2.2.1
  unfold carve_Blocks.f
  refine ev_bind (taken_yes (by omega) h) (ev_neg (by omega) (ev_pos h2 (ev_pos (by omega) ?_)))
  rw [w64 (n := i + 1) (by omega)]
  refine ev_pos (by omega) (ev_pos (by omega) (ev_bind (concat_ev (l.take i.toNat) (tkn (rd_T35 l i) need) (l.drop (i + 1).toNat) ?_) (ev_now ?_)))
  · rw [List.length_take, List.length_drop]; omega
  · unfold crv
    rw [show (i + 1).toNat = i.toNat + 1 from by omega]
theorem cblocks_no {l : List S35} {i need : Int} (hl : l.length ≤ 1000) (h : ¬ CanC l i need) : Ev (fun k => carve_Blocks.f k l i need) ([], false) := by
  unfold carve_Blocks.f
  exact ev_bind (taken_no (by omega) h) (ev_pos rfl (Ev.now _))
def hWord (n : Int) (u : Bool) : Int := if 2 ≤ n ∧ n ≤ 512 then 2 * n + (if u then 1 else 0) else 0
/-- Noughts in the words from k on of a block of t words. -/
def noughts (a k : Int) : Nat → List S30
  | 0 => []
  | n + 1 => ⟨a + k, 0⟩ :: noughts a (k + 1) n
theorem noughts_len (a : Int) (n : Nat) : ∀ k, (noughts a k n).length = n := by
  induction n with
  | zero => intro k; rfl
  | succ n ih => intro k; show (noughts a (k + 1) n).length + 1 = n + 1; rw [ih]
def eds (b : S35) (need : Int) : List S30 :=
  ⟨b.f0, hWord (tk b.f1 need) true⟩ :: (noughts b.f0 1 (tk b.f1 need - 1).toNat ++ (if tk b.f1 need < b.f1 then [⟨b.f0 + tk b.f1 need, hWord (b.f1 - tk b.f1 need) false⟩] else []))
theorem eds_l1 (l : List S35) (n b0 b1 : Int) (r : List S30) (u : Bool) (hb : 0 ≤ b0 ∧ b0 ≤ 1000 ∧ b1 ≤ 1000) (d : Nat) : ∀ (acc : List S30) (k : Int), 0 ≤ k → k + d = b1 → u = true → acc.length + d ≤ 100000 →
    Ev (fun j => carve_Edits.l0 j (acc ++ noughts b0 k d) l (l.length : Int) (wrap64 (n + 1))) r →
    Ev (fun j => carve_Edits.l1 j acc k l (l.length : Int) n b0 b1 u) r := by
  induction d with
  | zero =>
    intro acc k h0 h1 hu hl hg
    refine Ev.step (fun j => by rw [carve_Edits.l1]) ?_
    refine ev_neg (by omega) ?_
    have e : acc ++ noughts b0 k 0 = acc := List.append_nil _
    rwa [e] at hg
  | succ d ih =>
    intro acc k h0 h1 hu hl hg
    refine Ev.step (fun j => by rw [carve_Edits.l1]) ?_
    refine ev_pos (by omega) (ev_pos hu (ev_pos (by omega) ?_))
    rw [w64 (n := b0 + k) (by omega), w64 (n := k + 1) (by omega)]
    refine ih (acc ++ [⟨b0 + k, 0⟩]) (k + 1) (by omega) (by omega) hu (by simp; omega) ?_
    have e : acc ++ noughts b0 k (d + 1) = acc ++ [⟨b0 + k, 0⟩] ++ noughts b0 (k + 1) d := by
      show acc ++ (⟨b0 + k, 0⟩ :: noughts b0 (k + 1) d) = _
      simp
    rwa [e] at hg
theorem cedits_no {l : List S35} {i need : Int} (hl : l.length ≤ 1000) (h : ¬ CanC l i need) : Ev (fun k => carve_Edits.f k l i need) [] := by
  unfold carve_Edits.f
  refine ev_bind (taken_no (by omega) h) ?_
  refine Ev.step (fun j => by rw [carve_Edits.l0]) ?_
  exact ev_neg (by decide) (Ev.now _)
theorem cedits_yes {l : List S35} {i need : Int} (hl : l.length ≤ 1000) (h : CanC l i need) : Ev (fun k => carve_Edits.f k l i need) (eds (rd_T35 l i) need) := by
  have hr := isb_rd h.1 h.2.1 h.2.2.1
  have ht := tk_r h.2.2.2.2 hr.2.1
  unfold carve_Edits.f
  refine ev_bind (taken_yes (by omega) h) ?_
  generalize hb : rd_T35 l i = b at hr ht
  unfold tkn eds
  generalize tk b.f1 need = t at ht
  by_cases c : t < b.f1
  · rw [if_pos c, if_pos c]
    have hL : (([⟨b.f0, t, true⟩, ⟨b.f0 + t, b.f1 - t, false⟩] : List S35).length : Int) = 2 := rfl
    refine Ev.step (fun j => by rw [carve_Edits.l0]) ?_
    refine ev_pos (by simp) (ev_pos (by decide) (ev_pos (by simp) ?_))
    rw [show rd_T35 ([⟨b.f0, t, true⟩, ⟨b.f0 + t, b.f1 - t, false⟩] : List S35) 0 = ⟨b.f0, t, true⟩ from rfl]
    refine ev_bindc (word_eq t true) (ev_pos (by simp) ?_)
    refine eds_l1 _ 0 b.f0 t _ true ⟨by omega, by omega, by omega⟩ (t - 1).toNat _ 1 (by omega) (by omega) rfl (by simp; omega) ?_
    refine Ev.step (fun j => by rw [carve_Edits.l0]) ?_
    rw [show wrap64 ((0 : Int) + 1) = 1 from w64 (by decide)]
    refine ev_pos (by simp) (ev_pos (by decide) (ev_pos (by simp) ?_))
    rw [show rd_T35 ([⟨b.f0, t, true⟩, ⟨b.f0 + t, b.f1 - t, false⟩] : List S35) 1 = ⟨b.f0 + t, b.f1 - t, false⟩ from rfl]
    refine ev_bindc (word_eq (b.f1 - t) false) (ev_pos (by rw [List.length_append, noughts_len]; simp; omega) ?_)
    refine Ev.step (fun j => by rw [carve_Edits.l1]) ?_
    refine ev_pos (by have := ht.2.2.1 c; dsimp only; omega) (ev_neg (by simp) ?_)
    refine Ev.step (fun j => by rw [carve_Edits.l0]) ?_
    rw [show wrap64 ((1 : Int) + 1) = 2 from w64 (by decide)]
    refine ev_neg (by simp) (ev_now ?_)
    unfold hWord
    simp
  · rw [if_neg c, if_neg c]
    refine Ev.step (fun j => by rw [carve_Edits.l0]) ?_
    refine ev_pos (by simp) (ev_pos (by decide) (ev_pos (by simp) ?_))
    rw [show rd_T35 ([⟨b.f0, t, true⟩] : List S35) 0 = ⟨b.f0, t, true⟩ from rfl]
    refine ev_bindc (word_eq t true) (ev_pos (by simp) ?_)
    refine eds_l1 _ 0 b.f0 t _ true ⟨by omega, by omega, by omega⟩ (t - 1).toNat _ 1 (by omega) (by omega) rfl (by simp; omega) ?_
    refine Ev.step (fun j => by rw [carve_Edits.l0]) ?_
    rw [show wrap64 ((0 : Int) + 1) = 1 from w64 (by decide)]
    refine ev_neg (by simp) (ev_now ?_)
    unfold hWord
    simp
theorem eds_len {b : S35} {need : Int} (h : 2 ≤ tk b.f1 need) : ((eds b need).length : Int) = tk b.f1 need + (if tk b.f1 need < b.f1 then 1 else 0) := by
  unfold eds
  rw [List.length_cons, List.length_append, noughts_len]
  split
  · simp only [List.length_cons, List.length_nil]; omega
  · simp only [List.length_nil]; omega
theorem c_split {l : List S35} {i : Int} (h0 : 0 ≤ i) (h1 : i < l.length) : l = l.take i.toNat ++ rd_T35 l i :: l.drop (i.toNat + 1) := by
  obtain ⟨h, e⟩ := rdt_get h0 h1
  rw [e, ← List.drop_eq_getElem_cons h]
  exact (List.take_append_drop _ _).symm
theorem crv_may {l : List S35} {i need words : Int} (hC : MayB l words) (h : CanC l i need) : MayB (crv l i need) words := by
  obtain ⟨h1, h2, h3, h4, h5⟩ := h
  have hr := isb_rd h1 h2 h3
  have ht := tk_r h5 hr.2.1
  have hc := hC.2
  rw [c_split h2 h3] at hc
  have hs := chain_snd _ _ hc
  obtain ⟨k0, k1, k2, k3, k4, k5⟩ := hs
  rw [h4] at k4 k5
  have hfr : lastFr false (l.take i.toNat) = false := by
    cases hf : lastFr false (l.take i.toNat) with
    | false => rfl
    | true => have := k4 hf; cases this
  have hq : ∀ q Q', l.drop (i.toNat + 1) = q :: Q' → q.f2 = true := by
    intro q Q' e
    rw [e] at k5
    exact k5.2.2.2.2.1 rfl
  refine ⟨hC.1, ?_⟩
  unfold crv
  rw [List.append_assoc]
  refine chain_re _ _ _ hc ?_
  rw [hfr]
  unfold tkn
  split
  · rename_i c
    have := ht.2.2.1 c
    refine ⟨k0, by dsimp only; omega, by dsimp only; omega, by dsimp only; omega, (fun hh => nomatch hh), ?_⟩
    refine ⟨by dsimp only; omega, by dsimp only; omega, by dsimp only; omega, by dsimp only; omega, (fun hh => nomatch hh), ?_⟩
    dsimp only
    have e : 0 + sumS (l.take i.toNat) + tk (rd_T35 l i).f1 need + ((rd_T35 l i).f1 - tk (rd_T35 l i).f1 need) = 0 + sumS (l.take i.toNat) + (rd_T35 l i).f1 := by omega
    rw [e]
    exact k5
  · rename_i c
    have e : tk (rd_T35 l i).f1 need = (rd_T35 l i).f1 := by omega
    refine ⟨k0, by dsimp only; omega, by dsimp only; omega, by dsimp only; omega, (fun hh => nomatch hh), ?_⟩
    dsimp only
    rw [e]
    exact chain_fr _ k5 hq
theorem crv_rd {l : List S35} {i need : Int} (h0 : 0 ≤ i) (h1 : i < l.length) : rd_T35 (crv l i need) i = ⟨(rd_T35 l i).f0, tk (rd_T35 l i).f1 need, true⟩ ∧
    ((crv l i need).length : Int) = l.length + (if tk (rd_T35 l i).f1 need < (rd_T35 l i).f1 then 1 else 0) := by
  have hp : (((l.take i.toNat).length : Nat) : Int) = i := by rw [List.length_take]; omega
  constructor
  · unfold crv tkn
    rw [List.append_assoc, List.cons_append]
    have := rdt_mid (l.take i.toNat) ((if tk (rd_T35 l i).f1 need < (rd_T35 l i).f1 then [(⟨(rd_T35 l i).f0 + tk (rd_T35 l i).f1 need, (rd_T35 l i).f1 - tk (rd_T35 l i).f1 need, false⟩ : S35)] else []) ++ l.drop (i.toNat + 1)) ⟨(rd_T35 l i).f0, tk (rd_T35 l i).f1 need, true⟩
    rwa [hp] at this
  · unfold crv tkn
    rw [List.length_append, List.length_append, List.length_take, List.length_drop]
    split
    · simp only [List.length_cons, List.length_nil]; omega
    · simp only [List.length_cons, List.length_nil]; omega
theorem canc_of {l : List S35} {i need words : Int} (hC : MayB l words) (h0 : 0 ≤ i) (h1 : i < l.length) (hn : 2 ≤ need) : CanC l i need ↔ ((rd_T35 l i).f2 = false ∧ need ≤ (rd_T35 l i).f1) := by
  have hB : IsB l := by unfold IsB; rw [← isb_of hC]; exact hC
  have hr := isb_rd hB h0 h1
  have hz := tk_zero (s := (rd_T35 l i).f1) (n := need) hr.2.1
  constructor
  · rintro ⟨_, _, _, h4, h5⟩
    refine ⟨h4, ?_⟩
    by_cases c : need ≤ (rd_T35 l i).f1
    · exact c
    · exact absurd (hz.2 (by omega)) h5
  · rintro ⟨h4, h5⟩
    exact ⟨hB, h0, h1, h4, fun e => by have := hz.1 e; omega⟩
theorem awake_ev : Ev (fun k => darninglaw16_awake.f k) true := Ev.of (fun k => darninglaw16_awake.mono k) (k := 40) (by decide +kernel)
/-- Edits done one by one. -/
def app : List Int → List S30 → List Int
  | v, [] => v
  | v, e :: es => app (if 0 ≤ e.f0 ∧ e.f0 < v.length then v.set e.f0.toNat e.f1 else v) es
theorem app_len (es : List S30) : ∀ v, (app v es).length = v.length := by
  induction es with
  | nil => intro v; rfl
  | cons e es ih =>
    intro v
    show (app _ es).length = _
    rw [ih]
    split
    · rw [List.length_set]
    · rfl
theorem app_app (es fs : List S30) : ∀ v, app v (es ++ fs) = app (app v es) fs := by
  induction es with
  | nil => intro v; rfl
  | cons e es ih => intro v; exact ih _
theorem app_wds (es : List S30) : ∀ v, Wds v → (∀ e ∈ es, 0 ≤ e.f1 ∧ e.f1 ≤ 18446744073709551615) → Wds (app v es) := by
  induction es with
  | nil => intro v h _; exact h
  | cons e es ih =>
    intro v h he
    refine ih _ ?_ (fun x hx => he x (List.mem_cons_of_mem _ hx))
    have := he e List.mem_cons_self
    split
    · exact wds_set h this.1 this.2
    · exact h
theorem rde_mid (pre suf : List S30) (x : S30) : rd_T30 (pre ++ x :: suf) (pre.length : Int) = x := by
  unfold rd_T30
  rw [List.getD_eq_getElem?_getD, Int.toNat_natCast, List.getElem?_append_right (by omega)]
  simp
theorem apply_l0 (es : List S30) (hl : es.length ≤ 100000) (suf : List S30) : ∀ (pre : List S30) (v : List Int), es = pre ++ suf → Ev (fun k => darningref4_Apply.l0 k v es (es.length : Int) (pre.length : Int)) (app v suf) := by
  induction suf with
  | nil =>
    intro pre v he
    refine Ev.step (fun k => by rw [darningref4_Apply.l0]) ?_
    exact ev_neg (by rw [he]; simp) (Ev.now _)
  | cons x suf ih =>
    intro pre v he
    have hlt : (pre.length : Int) < (es.length : Int) := by rw [he]; simp; omega
    have em : rd_T30 es (pre.length : Int) = x := by rw [he]; exact rde_mid pre suf x
    have w1 : wrap64 ((pre.length : Int) + 1) = ((pre ++ [x]).length : Int) := by rw [w64 (by omega)]; simp
    have go := fun v' => ih (pre ++ [x]) v' (by rw [he]; simp)
    refine Ev.step (fun k => by rw [darningref4_Apply.l0]) ?_
    rw [em, w1]
    refine ev_pos hlt (ev_pos (by omega) (ev_pos hlt (ev_ite (fun c => ev_ite (fun d => ev_pos c ?_) (fun d => ?_)) (fun c => ?_))))
    · have := go (v.set x.f0.toNat x.f1)
      show Ev _ (app (if 0 ≤ x.f0 ∧ x.f0 < v.length then v.set x.f0.toNat x.f1 else v) suf)
      rw [if_pos ⟨c, d⟩]
      exact this
    · show Ev _ (app (if 0 ≤ x.f0 ∧ x.f0 < v.length then v.set x.f0.toNat x.f1 else v) suf)
      rw [if_neg (fun h => d h.2)]
      exact go v
    · show Ev _ (app (if 0 ≤ x.f0 ∧ x.f0 < v.length then v.set x.f0.toNat x.f1 else v) suf)
      rw [if_neg (fun h => c h.1)]
      exact go v
theorem apply_ev {v : List Int} {es : List S30} (hv : v.length ≤ 100000) (hl : es.length ≤ 100000) : Ev (fun k => darningref4_Apply.f k v es) (app v es) := by
  unfold darningref4_Apply.f
  refine ev_pos (by simp only [List.length_nil]; omega) ?_
  rw [List.nil_append]
  exact apply_l0 es hl es [] v rfl
theorem app_nou (a : Int) (n : Nat) (ha : 0 ≤ a) : ∀ (v : List Int) (k j : Int), 0 ≤ k → a + k + n ≤ v.length → 0 ≤ j → rd (app v (noughts a k n)) j = if a + k ≤ j ∧ j < a + k + n then 0 else rd v j := by
  induction n with
  | zero => intro v k j h0 h1 h2; rw [if_neg (by omega)]; rfl
  | succ n ih =>
    intro v k j h0 h1 h2
    show rd (app (if 0 ≤ a + k ∧ a + k < v.length then v.set (a + k).toNat 0 else v) (noughts a (k + 1) n)) j = _
    rw [if_pos (by omega), ih _ (k + 1) j (by omega) (by rw [List.length_set]; omega) h2, rd_set _ _ (by omega)]
    by_cases c : j = a + k
    · rw [if_neg (by omega), if_pos (by omega), if_pos (by omega)]
    · rw [if_neg (show ¬ j.toNat = (a + k).toNat by omega)]
      by_cases d : a + (k + 1) ≤ j ∧ j < a + (k + 1) + n
      · rw [if_pos d, if_pos (by omega)]
      · rw [if_neg d, if_neg (by omega)]
theorem nou_mem {a : Int} {n : Nat} : ∀ {k : Int} {e : S30}, e ∈ noughts a k n → e.f1 = 0 := by
  induction n with
  | zero => intro k e h; cases h
  | succ n ih =>
    intro k e h
    rcases List.mem_cons.1 h with h | h
    · rw [h]
    · exact ih h
theorem hw_of {n : Int} {u : Bool} (h : 2 ≤ n ∧ n ≤ 512) : hWord n u = 2 * n + (if u = true then 1 else 0) := by
  unfold hWord
  rw [if_pos h]
/-- What stands where in the words edited. -/
theorem eds_rd {v : List Int} {b : S35} {need : Int} (hb : 0 ≤ b.f0) (hv : b.f0 + b.f1 ≤ v.length) (h2 : 2 ≤ tk b.f1 need) (ht : tk b.f1 need ≤ b.f1) {j : Int} (h0 : 0 ≤ j) :
    rd (app v (eds b need)) j = if j = b.f0 + tk b.f1 need ∧ tk b.f1 need < b.f1 then hWord (b.f1 - tk b.f1 need) false else if b.f0 < j ∧ j < b.f0 + tk b.f1 need then 0 else if j = b.f0 then hWord (tk b.f1 need) true else rd v j := by
  unfold eds
  show rd (app (if 0 ≤ b.f0 ∧ b.f0 < v.length then v.set b.f0.toNat (hWord (tk b.f1 need) true) else v) _) j = _
  rw [if_pos (by omega), app_app]
  have hn : ∀ i : Int, 0 ≤ i → rd (app (v.set b.f0.toNat (hWord (tk b.f1 need) true)) (noughts b.f0 1 (tk b.f1 need - 1).toNat)) i = if b.f0 < i ∧ i < b.f0 + tk b.f1 need then 0 else if i = b.f0 then hWord (tk b.f1 need) true else rd v i := by
    intro i hi
    rw [app_nou b.f0 _ hb _ 1 i (by omega) (by rw [List.length_set]; omega) hi, rd_set _ _ (by omega)]
    by_cases c : b.f0 < i ∧ i < b.f0 + tk b.f1 need
    · rw [if_pos c, if_pos (by omega)]
    · rw [if_neg c, if_neg (by omega)]
      by_cases d : i = b.f0
      · rw [if_pos d, if_pos (by omega)]
      · rw [if_neg d, if_neg (by omega)]
  by_cases c : tk b.f1 need < b.f1
  · rw [if_pos c]
    show rd (if 0 ≤ b.f0 + tk b.f1 need ∧ b.f0 + tk b.f1 need < _ then (app (v.set b.f0.toNat (hWord (tk b.f1 need) true)) (noughts b.f0 1 (tk b.f1 need - 1).toNat)).set (b.f0 + tk b.f1 need).toNat (hWord (b.f1 - tk b.f1 need) false) else _) j = _
    rw [if_pos (by rw [app_len, List.length_set]; omega), rd_set _ _ (by rw [app_len, List.length_set]; omega)]
    by_cases d : j = b.f0 + tk b.f1 need
    · rw [if_pos (by omega), if_pos ⟨d, c⟩]
    · rw [if_neg (by omega), if_neg (fun h => d h.1), hn j h0]
  · rw [if_neg c, if_neg (fun h => c h.2)]
    exact hn j h0
theorem fill_l0 (l : List S35) (i need seed : Int) (r : Bool) (n : Nat) (hn : n ≤ 2000) (d : Nat) : ∀ (j : Int) (w : List Int), 0 ≤ j → j + d = n → w.length = n → Wds w →
    (∀ v : List Int, v.length = n → Wds v → (∀ k : Int, rd w k ≠ 0 → rd v k = rd w k) → Ev (fun k => darninglaw16_CarveEdited.l0 k l i need seed v n n) r) → Ev (fun k => darninglaw16_CarveEdited.l0 k l i need seed w n j) r := by
  induction d with
  | zero =>
    intro j w h0 h1 hl hW hg
    have e : j = n := by omega
    rw [e]
    exact hg w hl hW (fun _ _ => rfl)
  | succ d ih =>
    intro j w h0 h1 hl hW hg
    refine Ev.step (fun k => by rw [darninglaw16_CarveEdited.l0]) ?_
    refine ev_pos (by omega) (ev_pos h0 (ev_pos (by omega) (ev_ite (fun c => ?_) (fun c => ?_))))
    · refine Ev.step (fun k => by rw [darninglaw16_CarveEdited.j2]) ?_
      rw [w64 (n := j + 1) (by omega), u64w (seed + _)]
      refine ih (j + 1) _ (by omega) (by omega) (by rw [List.length_set]; exact hl) (wds_set hW (by omega) (by omega)) (fun v hv hvW hh => hg v hv hvW (fun k hk => ?_))
      have e := rd_set (t := w) ((seed + IntKind.u64.wrap j) % 18446744073709551616) k (i := j.toNat) (by omega)
      have hne : ¬ k.toNat = j.toNat := by
        intro e2
        apply hk
        rw [← c]
        unfold rd
        rw [e2]
      rw [if_neg hne] at e
      rw [hh k (by rw [e]; exact hk), e]
    · refine Ev.step (fun k => by rw [darninglaw16_CarveEdited.j2]) ?_
      rw [w64 (n := j + 1) (by omega)]
      exact ih (j + 1) w (by omega) (by omega) hl hW hg
theorem look_l1 {l m : List S35} {i : Int} {w v : List Int} {P t : Int} {b : S35} (hb : rd_T35 l i = b) (hm : rd_T35 m i = ⟨P, t, true⟩) (h0 : 0 ≤ i) (h1 : i < l.length) (h2 : i < m.length) (hP : 0 ≤ P ∧ P ≤ 1000 ∧ 2 ≤ t ∧ t ≤ 1000) (hn : w.length ≤ 2000) (hl : v.length = w.length)
    (hin : ∀ j : Int, P < j → j < P + t → rd v j = 0) (hout : ∀ j : Int, 0 ≤ j → ¬ (P < j ∧ j < P + t) → j ≠ P → ¬ (j = P + t ∧ t < b.f1) → rd v j = rd w j) (d : Nat) : ∀ j : Int, 0 ≤ j → j + d = v.length → Ev (fun k => darninglaw16_CarveEdited.l1 k l i w m v (v.length : Int) j) true := by
  induction d with
  | zero =>
    intro j j0 j1
    refine Ev.step (fun k => by rw [darninglaw16_CarveEdited.l1]) ?_
    exact ev_neg (by omega) (ev_bind awake_ev (Ev.now _))
  | succ d ih =>
    intro j j0 j1
    have next : Ev (fun k => darninglaw16_CarveEdited.j7 k l i w m v (v.length : Int) j false) true := by
      refine Ev.step (fun k => by rw [darninglaw16_CarveEdited.j7]) ?_
      refine ev_neg (by decide) (Ev.step (fun k => by rw [darninglaw16_CarveEdited.j8]) ?_)
      rw [w64 (n := j + 1) (by omega)]
      exact ih (j + 1) (by omega) (by omega)
    have j6 : ∀ x y : Bool, (x = true ↔ (P < j ∧ j < P + t)) → (y = true ↔ (j = P ∨ (j = P + t ∧ t < b.f1))) → Ev (fun k => darninglaw16_CarveEdited.j6 k l i w m v j x y (v.length : Int) j) true := by
      intro x y hx hy
      refine Ev.step (fun k => by rw [darninglaw16_CarveEdited.j6]) ?_
      refine ev_ite (fun c => ?_) (fun c => ev_ite (fun e => next) (fun e => ?_))
      · have c2 := hx.1 c
        exact ev_pos j0 (ev_pos (by omega) (ev_pos (hin j c2.1 c2.2) next))
      · have e1 : rd v j = rd w j := by
          refine hout j j0 (fun h => c (hx.2 h)) (fun h => e (hy.2 (.inl h))) (fun h => e (hy.2 (.inr h)))
        refine ev_pos j0 (ev_pos (by omega) (ev_pos (by omega) ?_))
        rw [e1, bne_self_eq_false]
        exact next
    have j5 : ∀ x : Bool, (x = true ↔ (P < j ∧ j < P + t)) → Ev (fun k => darninglaw16_CarveEdited.j5 k l i w m v j x (v.length : Int) j) true := by
      intro x hx
      refine Ev.step (fun k => by rw [darninglaw16_CarveEdited.j5]) ?_
      rw [hm, hb]
      dsimp only
      rw [w64 (n := P + t) (by omega)]
      refine ev_pos h0 (ev_pos h2 (ev_ite (fun c => j6 _ _ hx ⟨fun _ => .inl c, fun _ => rfl⟩) (fun c => ev_ite (fun e => ev_pos h1 (j6 _ _ hx ?_)) (fun e => j6 _ _ hx ?_))))
      · rw [decide_eq_true_iff]
        exact ⟨fun h => .inr ⟨e, h⟩, fun h => by omega⟩
      · exact ⟨fun h => (by cases h), fun h => by omega⟩
    refine Ev.step (fun k => by rw [darninglaw16_CarveEdited.l1]) ?_
    rw [hm]
    dsimp only
    rw [w64 (n := P + t) (by omega)]
    refine ev_pos (by omega) (ev_pos h0 (ev_pos h2 (ev_ite (fun c => j5 _ ?_) (fun c => j5 _ ?_))))
    · rw [decide_eq_true_iff]
      exact ⟨fun h => ⟨c, h⟩, fun h => h.2⟩
    · exact ⟨fun h => (by cases h), fun h => absurd h.1 c⟩
theorem eds_wds (b : S35) (need : Int) : ∀ e ∈ eds b need, 0 ≤ e.f1 ∧ e.f1 ≤ 18446744073709551615 := by
  have hh : ∀ (n : Int) (u : Bool), 0 ≤ hWord n u ∧ hWord n u ≤ 18446744073709551615 := by
    intro n u
    unfold hWord
    split
    · split <;> omega
    · omega
  intro e he
  unfold eds at he
  rcases List.mem_cons.1 he with he | he
  · rw [he]; exact hh _ _
  · rcases List.mem_append.1 he with he | he
    · rw [nou_mem he]; omega
    · split at he
      · rw [List.mem_singleton.1 he]; exact hh _ _
      · cases he
/-- The headers of the blocks carved stand in the words edited. -/
theorem crv_heads {l : List S35} {i need words : Int} {v : List Int} (hC : MayB l words) (h : CanC l i need) (hv : (v.length : Int) = words) (hH : ∀ b ∈ l, rd v b.f0 = headOf b) : ∀ b ∈ crv l i need, rd (app v (eds (rd_T35 l i) need)) b.f0 = headOf b := by
  obtain ⟨h1, h2, h3, h4, h5⟩ := h
  have hr := isb_rd h1 h2 h3
  have ht := tk_r h5 hr.2.1
  have hrw := chain_rd hC.2 h2 h3
  have hw := hC.1
  unfold MayW at hw
  have hup := chain_up hC.2
  have hl := c_split h2 h3
  have hlm : ∀ b ∈ l.take i.toNat, b ∈ l := fun b hb => List.mem_of_mem_take hb
  have hdm : ∀ b ∈ l.drop (i.toNat + 1), b ∈ l := fun b hb => List.mem_of_mem_drop hb
  rw [hl] at hup
  rw [List.pairwise_append] at hup
  intro b hb
  have rdv := fun (j : Int) (j0 : 0 ≤ j) => eds_rd (v := v) (b := rd_T35 l i) (need := need) hr.1 (by omega) ht.1 ht.2.1 j0
  unfold crv at hb
  rcases List.mem_append.1 hb with hb | hb
  · rcases List.mem_append.1 hb with hb | hb
    · have hx := hup.2.2 b hb _ List.mem_cons_self
      have hm := chain_mem hC.2 b (hlm b hb)
      rw [rdv b.f0 (by omega), if_neg (by omega), if_neg (by omega), if_neg (by omega)]
      exact hH b (hlm b hb)
    · unfold tkn at hb
      rcases List.mem_cons.1 hb with hb | hb
      · rw [hb]
        dsimp only
        rw [rdv _ (by omega), if_neg (by omega), if_neg (by omega), if_pos rfl, hw_of (by omega)]
        rfl
      · split at hb
        · rename_i c
          have := ht.2.2.1 c
          rw [List.mem_singleton.1 hb]
          dsimp only
          rw [rdv _ (by omega), if_pos ⟨rfl, c⟩, hw_of (by omega)]
          rfl
        · cases hb
  · have hx := (List.pairwise_cons.1 hup.2.1).1 b hb
    have hm := chain_mem hC.2 b (hdm b hb)
    rw [rdv b.f0 (by omega), if_neg (by omega), if_neg (by omega), if_neg (by omega)]
    exact hH b (hdm b hb)
theorem CarveEdited : darninglaw16_CarveEdited.Pure := by
  intro l words a n seed hm hy hw h1 h2 h3 h4
  apply Ev.rounds
  unfold darninglaw16_CarveEdited.f
  have outp : Ev (fun k => darninglaw16_CarveEdited.j0 k l words a n seed true) true := by
    refine Ev.step (fun k => by rw [darninglaw16_CarveEdited.j0]) ?_
    exact ev_pos rfl (ev_bind awake_ev (Ev.now _))
  refine ev_ite (fun _ => outp) (fun c1 => ev_ite (fun _ => outp) (fun c2 => ?_))
  by_cases hC : MayB l words
  case neg => exact ev_bind (mayb_no (by omega) hC) outp
  refine ev_bind (mayb_yes (by omega) hC) ?_
  refine Ev.step (fun k => by rw [darninglaw16_CarveEdited.j0]) ?_
  have lenW : IntKind.u64.wrap (l.length : Int) = l.length := by rw [u64w]; omega
  refine ev_neg (by decide) ?_
  rw [lenW]
  refine ev_neg (by omega) ?_
  rw [modw a _ (by omega) (by omega), modw n 60 (by omega) (by omega)]
  have x0 := Int.emod_nonneg (a % 18446744073709551616) (b := (l.length : Int)) (by omega)
  have x1 := Int.emod_lt_of_pos (a % 18446744073709551616) (b := (l.length : Int)) (by omega)
  have y0 := Int.emod_nonneg (n % 18446744073709551616) (b := 60) (by omega)
  have y1 := Int.emod_lt_of_pos (n % 18446744073709551616) (b := 60) (by omega)
  generalize a % 18446744073709551616 % (l.length : Int) = i at x0 x1 ⊢
  generalize n % 18446744073709551616 % 60 = y at y0 y1 ⊢
  rw [w64 (n := 2 + y) (by omega)]
  have hB : IsB l := by unfold IsB; rw [← isb_of hC]; exact hC
  have hr := isb_rd hB x0 x1
  have hwd := hC.1
  unfold MayW at hwd
  obtain ⟨v0, hv0, hH⟩ := words_ev (by omega) hC
  obtain ⟨hW0, hlen0⟩ := heads_wds hC hH
  refine ev_bind hv0 ?_
  refine fill_l0 l i (2 + y) seed true v0.length (by omega) v0.length 0 v0 (Int.le_refl _) (by omega) rfl hW0 (fun v hvl hvW hkeep => ?_)
  have hheads : ∀ b ∈ l, rd v b.f0 = headOf b := by
    intro b hb
    have hm := chain_mem hC.2 b hb
    have e := hH.2.1 b hb
    rw [hkeep b.f0 (by rw [e]; unfold headOf; split <;> omega), e]
  have hlenv : (v.length : Int) = words := by omega
  refine Ev.step (fun k => by rw [darninglaw16_CarveEdited.l0]) ?_
  refine ev_neg (by omega) ?_
  have can := canc_of (need := 2 + y) hC x0 x1 (by omega)
  by_cases h : CanC l i (2 + y)
  · have hc := can.1 h
    have hcr := crv_rd (need := 2 + y) x0 x1
    have ht := tk_r h.2.2.2.2 hr.2.1
    have hM := crv_may hC h
    refine ev_bind (cblocks_yes (by omega) h) (ev_bind (cedits_yes (by omega) h) (ev_pos x0 (ev_pos x1 ?_)))
    dsimp only
    rw [hc.1, decide_eq_false (by omega)]
    refine ev_neg (by decide) (Ev.step (fun k => by rw [darninglaw16_CarveEdited.j3]) ?_)
    have hel := eds_len (b := rd_T35 l i) (need := 2 + y) ht.1
    have hrw := chain_rd hC.2 x0 x1
    have happ := apply_ev (v := v) (es := eds (rd_T35 l i) (2 + y)) (by omega) (by split at hel <;> omega)
    have hlu := app_len (eds (rd_T35 l i) (2 + y)) v
    have rdv := fun (j : Int) (j0 : 0 ≤ j) => eds_rd (v := v) (b := rd_T35 l i) (need := 2 + y) hr.1 (by omega) ht.1 ht.2.1 j0
    have hW := app_wds (eds (rd_T35 l i) (2 + y)) v hvW (eds_wds _ _)
    have hp : ParseP (app v (eds (rd_T35 l i) (2 + y))) 0 (crv l i (2 + y)) := parse_of (fr := false) (by rw [hlu, hlenv]; exact hM.2) (crv_heads hC h hlenv hheads)
    have hbl := blocks_yes hW hp (by rw [hlu, hlenv]; exact hM)
    have hi2 : i < (crv l i (2 + y)).length := by rw [hcr.2]; split <;> omega
    have hl2 : (crv l i (2 + y)).length ≤ 100000 := by
      have := hcr.2
      split at this <;> omega
    refine ev_neg (by decide) (ev_bind happ (ev_bind hbl (ev_pos rfl (ev_pos rfl (ev_bind (sameb_yes hl2) (ev_pos rfl (ev_neg (by omega) (ev_pos x0 (ev_pos hi2 ?_)))))))))
    rw [hcr.1]
    refine ev_pos rfl (ev_pos x1 (ev_pos rfl ?_))
    have look := look_l1 (l := l) (m := crv l i (2 + y)) (i := i) (w := v) (v := app v (eds (rd_T35 l i) (2 + y))) rfl hcr.1 x0 x1 hi2 ⟨hr.1, by omega, ht.1, by omega⟩ (by omega) hlu ?_ ?_ (app v (eds (rd_T35 l i) (2 + y))).length 0 (Int.le_refl _) (by omega)
    · exact look
    · intro j j0 j1
      rw [rdv j (by omega), if_neg (by omega), if_pos ⟨j0, j1⟩]
    · intro j j0 j1 j2 j3
      rw [rdv j j0, if_neg j3, if_neg j1, if_neg j2]
  · have hc := fun hh => h (can.2 hh)
    refine ev_bind (cblocks_no (by omega) h) (ev_bind (cedits_no (by omega) h) (ev_pos x0 (ev_pos x1 ?_)))
    have go : Ev (fun k => darninglaw16_CarveEdited.j3 k l i v [] false [] true) true := by
      refine Ev.step (fun k => by rw [darninglaw16_CarveEdited.j3]) ?_
      exact ev_pos rfl (ev_neg (by decide) (ev_pos rfl (ev_bind awake_ev (Ev.now _))))
    refine ev_ite (fun _ => go) (fun c => ?_)
    rw [decide_eq_true (by
      by_cases d : 2 + y ≤ (rd_T35 l i).f1
      · exact absurd ⟨by simpa using c, d⟩ hc
      · omega)]
    exact go

end Go.Proofs.Ytglekonhdjploaa.Pure
