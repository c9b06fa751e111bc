/- ImageForms: for any words, numbers and bytes that the statement's guard lets in, image.Alloc, Free, Read, Write, Is and Holds answer as the reference's do. No condition. -/
import Derived.Test.YtglekonhdjploaaXImageFormsx
import Derived.Test.YtglekonhdjploaaZImageFormsSized
namespace Go.Proofs.Ytglekonhdjploaa.Pure
open Go.RowKit Go.Proofs.Ytglekonhdjploaa.XImageForms Go.Proofs.YtglekonhdjploaaW.PrintWords Go.Proofs.YtglekonhdjploaaW.PrintLast

theorem wfu64 {a : Int} (h : (Lit.int .u64 a).wf = true) : 0 ≤ a ∧ a ≤ 18446744073709551615 := by
  simp [Lit.wf, IntKind.min, IntKind.max, IntKind.bits, IntKind.signed] at h
  omega
theorem u64w (n : Int) : IntKind.u64.wrap n = n % 18446744073709551616 := by simp [IntKind.wrap, IntKind.bits, IntKind.signed]
theorem w64 {n : Int} (h : -9223372036854775808 ≤ n ∧ n ≤ 9223372036854775807) : wrap64 n = n := by unfold wrap64; omega
theorem tmodp {a b : Int} (h : 0 ≤ a) : Int.tmod a b = a % b := Int.tmod_eq_emod_of_nonneg h
theorem tdivp {a b : Int} (h : 0 ≤ a) : Int.tdiv a b = a / b := Int.tdiv_eq_ediv_of_nonneg h
theorem u64_wraps (n : Int) (h₀ : 0 ≤ n) (h₁ : n < 2 ^ 64) : IntKind.u64.wrap n = n := by rw [u64w]; omega
theorem u64_mask (i : Nat) (hi : i ≤ 64) (x : Int) (h₀ : 0 ≤ x) (h₁ : x < 2 ^ 64) : Go.bits .and .u64 x (2 ^ i - 1) = x % 2 ^ i :=
  bits_mask .u64 64 (by decide) u64_wraps i hi x h₀ h₁
theorem u64_and1 {x : Int} (h₀ : 0 ≤ x) (h₁ : x ≤ 18446744073709551615) : Go.bits .and .u64 x 1 = x % 2 := u64_mask 1 (by decide) x h₀ (by omega)
theorem u64_or1 {x : Int} (h₀ : 0 ≤ x) (h₁ : x ≤ 18446744073709551615) (h : x % 2 = 0) : Go.bits .or .u64 x 1 = x + 1 :=
  bits_join .u64 64 (by decide) u64_wraps 1 x 1 h₀ h (by omega) (by decide) (by decide) (by decide)
theorem ev_pos {α : Type} {c : Prop} [Decidable c] {a b : Nat → Option α} {r : α} (h : c) (k : Ev a r) : Ev (fun n => if c then a n else b n) r := by
  simp only [if_pos h]; exact k
theorem ev_neg {α : Type} {c : Prop} [Decidable c] {a b : Nat → Option α} {r : α} (h : ¬ c) (k : Ev b r) : Ev (fun n => if c then a n else b n) r := by
  simp only [if_neg h]; exact k
theorem ev_ite {α : Type} {c : Prop} [Decidable c] {a b : Nat → Option α} {r : α} (h1 : c → Ev a r) (h2 : ¬ c → Ev b r) : Ev (fun n => if c then a n else b n) r := by
  by_cases h : c
  · exact ev_pos h (h1 h)
  · exact ev_neg h (h2 h)
theorem ev_bindc {α β : Type} {o : Option α} {f : Nat → α → Option β} {a : α} {r : β} (h : o = some a) (k : Ev (fun n => f n a) r) : Ev (fun n => o.bind (f n)) r := by
  subst h; exact k
theorem ev_bind {α β : Type} {g : Nat → Option α} {f : Nat → α → Option β} {a : α} {r : β} (h : Ev g a) (k : Ev (fun n => f n a) r) : Ev (fun n => (g n).bind (f n)) r := Ev.bind h k
theorem ev_now {α : Type} {r s : α} (h : s = r) : Ev (fun _ => some s) r := by subst h; exact Ev.now _
theorem rdt_mid (pre suf : List S35) (x : S35) : rd_T35 (pre ++ x :: suf) (pre.length : Int) = x := by
  unfold rd_T35
  rw [List.getD_eq_getElem?_getD, Int.toNat_natCast, List.getElem?_append_right (by omega)]
  simp
theorem rdt_last (pre suf : List S35) (x : S35) : rd_T35 ((pre ++ [x]) ++ suf) (((pre ++ [x]).length : Int) - 1) = x := by
  have e : (((pre ++ [x]).length : Int) - 1) = (pre.length : Int) := by simp
  rw [e, List.append_assoc]
  exact rdt_mid pre suf x
theorem rdt_get {l : List S35} {j : Int} (h0 : 0 ≤ j) (h1 : j < l.length) : ∃ h : j.toNat < l.length, rd_T35 l j = l[j.toNat]'h := by
  refine ⟨by omega, ?_⟩
  unfold rd_T35
  rw [List.getD_eq_getElem?_getD, List.getElem?_eq_getElem (by omega)]
  rfl
theorem rdt_mem {l : List S35} {j : Int} (h0 : 0 ≤ j) (h1 : j < l.length) : rd_T35 l j ∈ l := by
  obtain ⟨h, e⟩ := rdt_get h0 h1
  rw [e]
  exact List.getElem_mem h
def ChainP (words : Int) : Int → Bool → List S35 → Prop
  | a, _, [] => a = words
  | a, fr, b :: l => b.f0 = a ∧ 2 ≤ b.f1 ∧ b.f1 ≤ 512 ∧ b.f1 ≤ words - a ∧ (fr = true → b.f2 = true) ∧ ChainP words (a + b.f1) (!b.f2) l
def MayW (words : Int) : Prop := 8 ≤ words ∧ words ≤ 512 ∧ words % 8 = 0
instance (words : Int) : Decidable (MayW words) := by unfold MayW; infer_instance
def MayB (l : List S35) (words : Int) : Prop := MayW words ∧ ChainP words 0 false l
theorem chain_mem {words : Int} {l : List S35} : ∀ {a : Int} {fr : Bool}, ChainP words a fr l → ∀ b ∈ l, a ≤ b.f0 ∧ 2 ≤ b.f1 ∧ b.f1 ≤ 512 ∧ b.f0 + b.f1 ≤ words := by
  induction l with
  | nil => exact fun _ b hb => absurd hb (by simp)
  | cons c l ih =>
    intro a fr h b hb
    obtain ⟨h0, h1, h2, h3, h4, h5⟩ := h
    rcases List.mem_cons.1 hb with hb | hb
    · subst hb; omega
    · have := ih h5 b hb; omega
theorem chain_up {words : Int} {l : List S35} : ∀ {a : Int} {fr : Bool}, ChainP words a fr l → l.Pairwise (fun b c => b.f0 + b.f1 ≤ c.f0) := by
  induction l with
  | nil => exact fun _ => List.Pairwise.nil
  | cons c l ih =>
    intro a fr h
    obtain ⟨h0, h1, h2, h3, h4, h5⟩ := h
    refine List.pairwise_cons.2 ⟨fun b hb => ?_, ih h5⟩
    have := chain_mem h5 b hb
    omega
theorem chain_len {words : Int} {l : List S35} : ∀ {a : Int} {fr : Bool}, ChainP words a fr l → a + 2 * l.length ≤ words := by
  induction l with
  | nil => intro a fr h; have : a = words := h; simp; omega
  | cons c l ih =>
    intro a fr h
    obtain ⟨h0, h1, h2, h3, h4, h5⟩ := h
    have := ih h5
    simp; omega
theorem chain_rd {words : Int} {l : List S35} (h : ChainP words 0 false l) {j : Int} (h0 : 0 ≤ j) (h1 : j < l.length) :
    0 ≤ (rd_T35 l j).f0 ∧ 2 ≤ (rd_T35 l j).f1 ∧ (rd_T35 l j).f1 ≤ 512 ∧ (rd_T35 l j).f0 + (rd_T35 l j).f1 ≤ words := chain_mem h _ (rdt_mem h0 h1)
theorem chain_lt {words : Int} {l : List S35} (h : ChainP words 0 false l) {i j : Int} (h0 : 0 ≤ i) (h1 : i < j) (h2 : j < l.length) : (rd_T35 l i).f0 + (rd_T35 l i).f1 ≤ (rd_T35 l j).f0 := by
  obtain ⟨hi, ei⟩ := rdt_get (l := l) h0 (by omega)
  obtain ⟨hj, ej⟩ := rdt_get (l := l) (j := j) (by omega) h2
  rw [ei, ej]
  exact List.pairwise_iff_getElem.1 (chain_up h) _ _ hi hj (by omega)
def frOf (l : List S35) : Bool := match l.getLast? with | some b => !b.f2 | none => false
theorem frOf_snoc (l : List S35) (b : S35) : frOf (l ++ [b]) = !b.f2 := by simp [frOf]
theorem frOf_pos {l : List S35} (h : frOf l = true) : ∃ m b, l = m ++ [b] ∧ b.f2 = false := by
  rcases List.eq_nil_or_concat l with rfl | ⟨m, b, rfl⟩
  · simp [frOf] at h
  · refine ⟨m, b, by simp, ?_⟩
    simpa [frOf] using h
theorem cmayw_eq (n : Int) : chain_mayWords.f n = some (decide (8 ≤ n ∧ n ≤ 512 ∧ n % 8 = 0)) := by
  unfold chain_mayWords.f
  by_cases h1 : n ≥ 8
  · rw [if_pos h1]
    by_cases h2 : n ≤ 512
    · rw [if_pos h2, tmodp (by omega)]
      congr 1
      rw [Bool.eq_iff_iff, beq_iff_eq, decide_eq_true_iff]
      exact ⟨fun h => ⟨h1, h2, h⟩, fun h => h.2.2⟩
    · rw [if_neg h2, decide_eq_false (by omega)]
  · rw [if_neg h1, decide_eq_false (by omega)]
theorem bmay_eq (n : Int) : block_May.f n = some (decide (2 ≤ n ∧ n ≤ 512)) := by
  unfold block_May.f
  by_cases h2 : n ≥ 2
  · rw [if_pos h2]; congr 1; rw [Bool.eq_iff_iff]; simp only [decide_eq_true_iff]; omega
  · rw [if_neg h2, decide_eq_false (by omega)]
theorem cmay_l0 {words : Int} (hw : words ≤ 100000) (suf : List S35) : ∀ (pre : List S35) (a : Int) (fr : Bool), 0 ≤ a → a ≤ words → (pre ++ suf).length ≤ 100000 →
    ∃ b, Ev (fun k => chain_May.l0 k words a fr (pre ++ suf) ((pre ++ suf).length : Int) (pre.length : Int)) b ∧ (b = true ↔ ChainP words a fr suf) := by
  induction suf with
  | nil =>
    intro pre a fr h0 h1 hl
    refine ⟨a == words, Ev.step (fun k => by rw [chain_May.l0]) (ev_neg (by simp) (Ev.now _)), ?_⟩
    rw [beq_iff_eq]; exact Iff.rfl
  | cons x suf ih =>
    intro pre a fr h0 h1 hl
    have e : pre ++ x :: suf = (pre ++ [x]) ++ suf := by simp
    have hlen2 : ((pre ++ [x]).length : Int) = (pre.length : Int) + 1 := by simp
    have hlt : (pre.length : Int) < ((pre ++ x :: suf).length : Int) := by simp; omega
    have w1 : wrap64 ((pre.length : Int) + 1) = (pre.length : Int) + 1 := w64 (by simp at hl; omega)
    have w2 : wrap64 (words - a) = words - a := w64 (by omega)
    by_cases c1 : x.f0 = a
    · by_cases c2 : 2 ≤ x.f1 ∧ x.f1 ≤ 512
      · by_cases c4 : fr = true ∧ x.f2 = false
        · refine ⟨false, Ev.step (fun k => by rw [chain_May.l0]) ?_, ⟨fun h => (by cases h), fun h => by have := h.2.2.2.2.1 c4.1; rw [c4.2] at this; cases this⟩⟩
          rw [rdt_mid]
          exact ev_pos hlt (ev_pos (by omega) (ev_pos hlt (ev_pos c1 (ev_bindc (bmay_eq _) (ev_pos (by simp [c2]) (ev_pos c4.1 (ev_neg (by rw [c4.2]; decide) (Ev.now _))))))))
        · by_cases c3 : x.f1 > words - a
          · refine ⟨false, Ev.step (fun k => by rw [chain_May.l0]) ?_, ⟨fun h => (by cases h), fun h => by have := h.2.2.2.1; omega⟩⟩
            rw [rdt_mid, w2]
            refine ev_pos hlt (ev_pos (by omega) (ev_pos hlt (ev_pos c1 (ev_bindc (bmay_eq _) (ev_pos (by simp [c2]) ?_)))))
            exact ev_ite (fun _ => ev_ite (fun _ => ev_pos c3 (Ev.now _)) (fun _ => Ev.now _)) (fun _ => ev_pos c3 (Ev.now _))
          · have w3 : wrap64 (a + x.f1) = a + x.f1 := w64 (by omega)
            obtain ⟨b, hb, hi⟩ := ih (pre ++ [x]) (a + x.f1) (!x.f2) (by omega) (by omega) (by rw [← e]; exact hl)
            rw [hlen2, ← e] at hb
            refine ⟨b, Ev.step (fun k => by rw [chain_May.l0]) ?_, ?_⟩
            · rw [rdt_mid, w2, w1, w3]
              refine ev_pos hlt (ev_pos (by omega) (ev_pos hlt (ev_pos c1 (ev_bindc (bmay_eq _) (ev_pos (by simp [c2]) ?_)))))
              refine ev_ite (fun hf => ?_) (fun _ => ev_neg c3 hb)
              refine ev_pos ?_ (ev_neg c3 hb)
              cases hx : x.f2 with
              | true => rfl
              | false => exact absurd ⟨hf, hx⟩ c4
            · rw [hi]
              constructor
              · intro h
                exact ⟨c1, c2.1, c2.2, by omega, fun hf => by
                  cases hx : x.f2 with
                  | true => rfl
                  | false => exact absurd ⟨hf, hx⟩ c4, h⟩
              · exact fun h => h.2.2.2.2.2
      · refine ⟨false, Ev.step (fun k => by rw [chain_May.l0]) ?_, ⟨fun h => (by cases h), fun h => absurd ⟨h.2.1, h.2.2.1⟩ c2⟩⟩
        rw [rdt_mid]
        exact ev_pos hlt (ev_pos (by omega) (ev_pos hlt (ev_pos c1 (ev_bindc (bmay_eq _) (ev_neg (by simp; omega) (Ev.now _))))))
    · refine ⟨false, Ev.step (fun k => by rw [chain_May.l0]) ?_, ⟨fun h => (by cases h), fun h => absurd h.1 c1⟩⟩
      rw [rdt_mid]
      exact ev_pos hlt (ev_pos (by omega) (ev_pos hlt (ev_neg c1 (Ev.now _))))
theorem cmay_ev {l : List S35} (words : Int) (hl : l.length ≤ 100000) : ∃ b, Ev (fun k => chain_May.f k l words) b ∧ (b = true ↔ MayB l words) := by
  unfold chain_May.f
  by_cases h : 8 ≤ words ∧ words ≤ 512 ∧ words % 8 = 0
  · obtain ⟨b, hb, hi⟩ := cmay_l0 (words := words) (by omega) l [] 0 false (by omega) (by omega) hl
    refine ⟨b, ev_bindc (cmayw_eq words) (ev_pos (by simp [h]) hb), hi.trans ⟨fun hh => ⟨h, hh⟩, fun hh => hh.2⟩⟩
  · exact ⟨false, ev_bindc (cmayw_eq words) (ev_neg (by simpa using h) (Ev.now _)), ⟨fun hh => (by cases hh), fun hh => absurd hh.1 h⟩⟩
theorem cmay_yes {l : List S35} {words : Int} (hl : l.length ≤ 100000) (h : MayB l words) : Ev (fun k => chain_May.f k l words) true := by
  obtain ⟨b, hb, hi⟩ := cmay_ev words hl
  rwa [hi.2 h] at hb
theorem cmay_no {l : List S35} {words : Int} (hl : l.length ≤ 100000) (h : ¬ MayB l words) : Ev (fun k => chain_May.f k l words) false := by
  obtain ⟨b, hb, hi⟩ := cmay_ev words hl
  cases b with
  | true => exact absurd (hi.1 rfl) h
  | false => exact hb
theorem blk_ext {a b : S35} (h0 : a.f0 = b.f0) (h1 : a.f1 = b.f1) (h2 : a.f2 = b.f2) : a = b := by
  cases a; cases b; simp at h0 h1 h2; simp [h0, h1, h2]
theorem parse_eq {w : Int} (h : 0 ≤ w ∧ w ≤ 18446744073709551615) :
    block_Parse.f w = if 2 ≤ w / 2 ∧ w / 2 ≤ 512 then some (w / 2, w % 2 == 1, true) else some (0, false, false) := by
  unfold block_Parse.f block_May.f
  rw [u64_and1 h.1 h.2, w64 (by omega)]
  by_cases h1 : w / 2 > 512
  · rw [if_pos h1, if_neg (by omega)]
  · rw [if_neg h1]
    by_cases h2 : w / 2 ≥ 2
    · rw [if_pos h2, if_pos (by omega)]
      simp only [Option.bind_some]
      rw [if_pos (by simp; omega)]
    · rw [if_neg h2, if_neg (by omega)]; rfl
theorem word_eq (n : Int) (u : Bool) : block_Word.f n u = some (if 2 ≤ n ∧ n ≤ 512 then 2 * n + (if u then 1 else 0) else 0) := by
  unfold block_Word.f block_May.f
  by_cases h : 2 ≤ n ∧ n ≤ 512
  · rw [if_pos (by omega), if_pos h]
    simp only [Option.bind_some]
    rw [if_pos (by simp; omega)]
    have e : IntKind.u64.wrap (IntKind.u64.wrap n * 2) = 2 * n := by rw [u64w, u64w]; omega
    rw [e]
    cases u
    · simp
    · simp only [if_true]; rw [u64_or1 (by omega) (by omega) (by omega)]
  · rw [if_neg h]
    by_cases h2 : n ≥ 2
    · rw [if_pos h2]; simp only [Option.bind_some]; rw [if_neg (by simp; omega)]
    · rw [if_neg h2]; rfl
def Wds (w : List Int) : Prop := w.length ≤ 2000 ∧ ∀ j : Int, 0 ≤ rd w j ∧ rd w j ≤ 18446744073709551615
theorem wds_of {w : List Int} (h : ∀ x ∈ w, (Lit.int .u64 x).wf = true) (hl : w.length ≤ 2000) : Wds w := by
  refine ⟨hl, fun j => ?_⟩
  unfold rd
  rw [List.getD_eq_getElem?_getD]
  by_cases hj : j.toNat < w.length
  · rw [List.getElem?_eq_getElem hj]
    exact wfu64 (h _ (List.getElem_mem hj))
  · rw [List.getElem?_eq_none (by omega)]; exact ⟨by decide, by decide⟩
def ParseP (w : List Int) : Int → List S35 → Prop
  | a, [] => (w.length : Int) ≤ a
  | a, b :: l => a < w.length ∧ b.f0 = a ∧ 2 ≤ rd w a / 2 ∧ rd w a / 2 ≤ 512 ∧ b.f1 = rd w a / 2 ∧ b.f2 = (rd w a % 2 == 1) ∧ ParseP w (a + b.f1) l
theorem parse_one {w : List Int} {l : List S35} : ∀ {a : Int} {m : List S35}, ParseP w a l → ParseP w a m → l = m := by
  induction l with
  | nil =>
    intro a m h h'
    cases m with
    | nil => rfl
    | cons b m => have h1 : (w.length : Int) ≤ a := h; have := h'.1; omega
  | cons b l ih =>
    intro a m h h'
    cases m with
    | nil => have h1 : (w.length : Int) ≤ a := h'; have := h.1; omega
    | cons c m =>
      obtain ⟨a0, a1, a2, a3, a4, a5, a6⟩ := h
      obtain ⟨b0, b1, b2, b3, b4, b5, b6⟩ := h'
      have e : b = c := blk_ext (by rw [a1, b1]) (by rw [a4, b4]) (by rw [a5, b5])
      subst e
      rw [ih a6 b6]
def BlocksP (w : List Int) (r : List S35 × Bool) : Prop :=
  (ParseP w 0 r.1 ∧ MayB r.1 w.length ∧ r.2 = true) ∨ ((∀ l, ParseP w 0 l → ¬ MayB l w.length) ∧ r = ([], false))
theorem blocks_one {w : List Int} {r r' : List S35 × Bool} (h : BlocksP w r) (h' : BlocksP w r') : r = r' := by
  rcases h with ⟨a, b, c⟩ | ⟨a, b⟩
  · rcases h' with ⟨a', b', c'⟩ | ⟨a', b'⟩
    · exact Prod.ext (parse_one a a') (by rw [c, c'])
    · exact absurd b (a' _ a)
  · rcases h' with ⟨a', b', c'⟩ | ⟨a', b'⟩
    · exact absurd b' (a _ a')
    · rw [b, b']
theorem blocks_l0 {w : List Int} (hw : Wds w) (d : Nat) : ∀ (acc : List S35) (a : Int), 0 ≤ a → (w.length : Int) ≤ a + d → a ≤ 3000 → (acc.length : Int) ≤ a →
    ∃ r, Ev (fun k => chain_Blocks.l0 k w acc a) r ∧ ((∃ l, ParseP w a l ∧ MayB (acc ++ l) w.length ∧ r = (acc ++ l, true)) ∨ ((∀ l, ParseP w a l → ¬ MayB (acc ++ l) w.length) ∧ r = ([], false))) := by
  have hlen := hw.1
  have fin : ∀ (acc : List S35) (a : Int), 0 ≤ a → (w.length : Int) ≤ a → a ≤ 3000 → (acc.length : Int) ≤ a →
      ∃ r, Ev (fun k => chain_Blocks.l0 k w acc a) r ∧ ((∃ l, ParseP w a l ∧ MayB (acc ++ l) w.length ∧ r = (acc ++ l, true)) ∨ ((∀ l, ParseP w a l → ¬ MayB (acc ++ l) w.length) ∧ r = ([], false))) := by
    intro acc a h0 h1 h2 h3
    obtain ⟨b, hb, hi⟩ := cmay_ev (l := acc) (w.length : Int) (by omega)
    have pn : ∀ l, ParseP w a l → l = [] := fun l hl => by
      cases l with
      | nil => rfl
      | cons c l => have := hl.1; omega
    cases b with
    | true =>
      refine ⟨(acc, true), Ev.step (fun k => by rw [chain_Blocks.l0]) ?_, Or.inl ⟨[], h1, by rw [List.append_nil]; exact hi.1 rfl, by rw [List.append_nil]⟩⟩
      exact ev_neg (by omega) (ev_bind hb (ev_pos rfl (Ev.now _)))
    | false =>
      refine ⟨([], false), Ev.step (fun k => by rw [chain_Blocks.l0]) ?_, Or.inr ⟨fun l hl hm => ?_, rfl⟩⟩
      · exact ev_neg (by omega) (ev_bind hb (ev_neg (by decide) (Ev.now _)))
      · rw [pn l hl, List.append_nil] at hm
        have := hi.2 hm
        cases this
  induction d with
  | zero => intro acc a h0 h1; exact fin acc a h0 (by omega)
  | succ d ih =>
    intro acc a h0 h1 h2 h3
    by_cases ha : (w.length : Int) ≤ a
    · exact fin acc a h0 ha h2 h3
    · have hr := hw.2 a
      by_cases hp : 2 ≤ rd w a / 2 ∧ rd w a / 2 ≤ 512
      · obtain ⟨r, hb, hi⟩ := ih (acc ++ [(⟨a, rd w a / 2, rd w a % 2 == 1⟩ : S35)]) (a + rd w a / 2) (by omega) (by omega) (by omega) (by simp; omega)
        refine ⟨r, Ev.step (fun k => by rw [chain_Blocks.l0]) ?_, ?_⟩
        · rw [parse_eq hr, if_pos hp]
          refine ev_pos (by omega) (ev_pos h0 (ev_bindc rfl ?_))
          refine ev_pos rfl (ev_pos (by omega) ?_)
          rw [w64 (n := a + rd w a / 2) (by omega)]
          exact hb
        · rcases hi with ⟨l, q1, q2, q3⟩ | ⟨q1, q2⟩
          · refine Or.inl ⟨(⟨a, rd w a / 2, rd w a % 2 == 1⟩ : S35) :: l, ⟨by omega, rfl, hp.1, hp.2, rfl, rfl, q1⟩, ?_, ?_⟩
            · rw [List.append_assoc] at q2; exact q2
            · rw [q3, List.append_assoc]; rfl
          · refine Or.inr ⟨fun l hl => ?_, q2⟩
            cases l with
            | nil => have hl : (w.length : Int) ≤ a := hl; omega
            | cons b l =>
              obtain ⟨b0, b1, b2, b3, b4, b5, b6⟩ := hl
              have e : b = (⟨a, rd w a / 2, rd w a % 2 == 1⟩ : S35) := blk_ext b1 b4 b5
              rw [b4] at b6
              have := q1 l b6
              rw [List.append_assoc] at this
              rw [e]; exact this
      · refine ⟨([], false), Ev.step (fun k => by rw [chain_Blocks.l0]) ?_, Or.inr ⟨fun l hl => ?_, rfl⟩⟩
        · rw [parse_eq hr, if_neg hp]
          exact ev_pos (by omega) (ev_pos h0 (ev_bindc rfl (ev_neg (by decide) (Ev.now _))))
        · cases l with
          | nil => have hl : (w.length : Int) ≤ a := hl; omega
          | cons b l => exact absurd ⟨hl.2.2.1, hl.2.2.2.1⟩ hp
theorem blocks_ev {w : List Int} (hw : Wds w) : ∃ r, Ev (fun k => chain_Blocks.f k w) r ∧ BlocksP w r := by
  have hlen := hw.1
  obtain ⟨r, h1, h2⟩ := blocks_l0 hw w.length [] 0 (by omega) (by omega) (by omega) (by simp)
  refine ⟨r, h1, ?_⟩
  rcases h2 with ⟨l, a, b, c⟩ | ⟨a, b⟩
  · rw [c]; exact Or.inl ⟨a, b, rfl⟩
  · exact Or.inr ⟨a, b⟩
theorem blocks_yes {w : List Int} {l : List S35} (hw : Wds w) (hp : ParseP w 0 l) (hm : MayB l w.length) : Ev (fun k => chain_Blocks.f k w) (l, true) := by
  obtain ⟨r, h1, h2⟩ := blocks_ev hw
  have := blocks_one h2 (Or.inl ⟨hp, hm, rfl⟩ : BlocksP w (l, true))
  rwa [this] at h1
def headOf (b : S35) : Int := 2 * b.f1 + (if b.f2 = true then 1 else 0)
theorem head_r (b : S35) : (headOf b / 2 = b.f1) ∧ ((headOf b % 2 == 1) = b.f2) := by
  unfold headOf
  cases b.f2
  · rw [if_neg (by decide)]; exact ⟨by omega, by rw [beq_eq_false_iff_ne]; omega⟩
  · rw [if_pos rfl]; exact ⟨by omega, by rw [beq_iff_eq]; omega⟩
theorem parse_of {w : List Int} {l : List S35} : ∀ {a : Int} {fr : Bool}, ChainP w.length a fr l → (∀ b ∈ l, rd w b.f0 = headOf b) → ParseP w a l := by
  induction l with
  | nil => intro a fr h _; have h : a = w.length := h; show (w.length : Int) ≤ a; omega
  | cons b l ih =>
    intro a fr h hh
    obtain ⟨h0, h1, h2, h3, h4, h5⟩ := h
    have hb := hh b (by simp)
    rw [h0] at hb
    have hr := head_r b
    exact ⟨by omega, h0, by rw [hb, hr.1]; exact h1, by rw [hb, hr.1]; exact h2, by rw [hb, hr.1], by rw [hb, hr.2], ih h5 (fun c hc => hh c (by simp [hc]))⟩
theorem maysize_eq (n : Int) : darningref4_MaySize.f n = some (decide (2 ≤ n ∧ n ≤ 512)) := by
  unfold darningref4_MaySize.f
  by_cases h2 : n ≥ 2
  · rw [if_pos h2]; congr 1; rw [Bool.eq_iff_iff]; simp only [decide_eq_true_iff]; omega
  · rw [if_neg h2, decide_eq_false (by omega)]
theorem rmayw_eq (n : Int) : darningref4_mayWords.f n = some (decide (8 ≤ n ∧ n ≤ 512 ∧ n % 8 = 0)) := by
  unfold darningref4_mayWords.f
  by_cases h1 : n ≥ 8
  · rw [if_pos h1]
    by_cases h2 : n ≤ 512
    · rw [if_pos h2, tmodp (by omega)]
      congr 1
      rw [Bool.eq_iff_iff, beq_iff_eq, decide_eq_true_iff]
      exact ⟨fun h => ⟨h1, h2, h⟩, fun h => h.2.2⟩
    · rw [if_neg h2, decide_eq_false (by omega)]
  · rw [if_neg h1, decide_eq_false (by omega)]
theorem mayb_l0 {words : Int} (hw : words ≤ 512) (suf : List S35) : ∀ (pre : List S35) (a : Int), 0 ≤ a → a ≤ words → (pre ++ suf).length ≤ 100000 →
    ∃ b, Ev (fun k => darningref4_MayBlocks.l0 k (pre ++ suf) words a (pre ++ suf) ((pre ++ suf).length : Int) (pre.length : Int)) b ∧ (b = true ↔ ChainP words a (frOf pre) suf) := by
  induction suf with
  | nil =>
    intro pre a h0 h1 hl
    refine ⟨a == words, Ev.step (fun k => by rw [darningref4_MayBlocks.l0]) (ev_neg (by simp) (Ev.now _)), ?_⟩
    rw [beq_iff_eq]; exact Iff.rfl
  | cons x suf ih =>
    intro pre a h0 h1 hl
    have e : pre ++ x :: suf = (pre ++ [x]) ++ suf := by simp
    have hlen2 : ((pre ++ [x]).length : Int) = (pre.length : Int) + 1 := by simp
    have hlt : (pre.length : Int) < ((pre ++ x :: suf).length : Int) := by simp; omega
    have w2 : wrap64 (words - a) = words - a := w64 (by omega)
    have bad : Ev (fun k => darningref4_MayBlocks.j1 k (pre ++ x :: suf) words a (pre ++ x :: suf) ((pre ++ x :: suf).length : Int) (pre.length : Int) true x.f0 x.f1 x.f2) false :=
      Ev.step (fun k => by rw [darningref4_MayBlocks.j1]) (ev_pos rfl (Ev.now _))
    by_cases c1 : x.f0 = a
    · by_cases c2 : 2 ≤ x.f1 ∧ x.f1 ≤ 512
      · by_cases c3 : x.f1 > words - a
        · refine ⟨false, Ev.step (fun k => by rw [darningref4_MayBlocks.l0]) ?_, ⟨fun h => (by cases h), fun h => by have := h.2.2.2.1; omega⟩⟩
          rw [rdt_mid, w2]
          exact ev_pos hlt (ev_pos (by omega) (ev_pos hlt (ev_pos c1 (ev_bindc (maysize_eq _) (ev_pos (by simp [c2]) (ev_pos c3 bad))))))
        · obtain ⟨b, hb, hi⟩ := ih (pre ++ [x]) (a + x.f1) (by omega) (by omega) (by rw [← e]; exact hl)
          rw [hlen2, ← e] at hb
          rw [frOf_snoc] at hi
          have good : Ev (fun k => darningref4_MayBlocks.j1 k (pre ++ x :: suf) words a (pre ++ x :: suf) ((pre ++ x :: suf).length : Int) (pre.length : Int) false x.f0 x.f1 x.f2) b := by
            refine Ev.step (fun k => by rw [darningref4_MayBlocks.j1]) (ev_neg (by decide) ?_)
            rw [w64 (n := a + x.f1) (by omega), w64 (n := (pre.length : Int) + 1) (by simp at hl; omega)]
            exact hb
          by_cases c4 : frOf pre = true ∧ x.f2 = false
          · obtain ⟨m, y, hm, hy⟩ := frOf_pos c4.1
            refine ⟨false, Ev.step (fun k => by rw [darningref4_MayBlocks.l0]) ?_, ⟨fun h => (by cases h), fun h => by have := h.2.2.2.2.1 c4.1; rw [c4.2] at this; cases this⟩⟩
            rw [rdt_mid, w2]
            refine ev_pos hlt (ev_pos (by omega) (ev_pos hlt (ev_pos c1 (ev_bindc (maysize_eq _) (ev_pos (by simp [c2]) (ev_neg c3 ?_))))))
            have hp : 0 < (pre.length : Int) := by rw [hm, List.length_append, List.length_singleton]; omega
            refine ev_pos hp (ev_neg (by rw [c4.2]; decide) ?_)
            rw [w64 (n := (pre.length : Int) - 1) (by simp at hl; omega)]
            refine ev_pos (by omega) (ev_pos (by omega) ?_)
            have e2 : rd_T35 (pre ++ x :: suf) ((pre.length : Int) - 1) = y := by rw [hm]; exact rdt_last m (x :: suf) y
            rw [e2, hy]
            exact bad
          · refine ⟨b, Ev.step (fun k => by rw [darningref4_MayBlocks.l0]) ?_, ?_⟩
            · rw [rdt_mid, w2]
              refine ev_pos hlt (ev_pos (by omega) (ev_pos hlt (ev_pos c1 (ev_bindc (maysize_eq _) (ev_pos (by simp [c2]) (ev_neg c3 ?_))))))
              refine ev_ite (fun hp => ev_ite (fun _ => good) (fun hu => ?_)) (fun _ => good)
              rw [w64 (n := (pre.length : Int) - 1) (by simp at hl; omega)]
              refine ev_pos (by omega) (ev_pos (by omega) ?_)
              rcases List.eq_nil_or_concat pre with hn | ⟨m, y, hm⟩
              · subst hn; simp at hp
              · rw [List.concat_eq_append] at hm
                have e2 : rd_T35 (pre ++ x :: suf) ((pre.length : Int) - 1) = y := by rw [hm]; exact rdt_last m (x :: suf) y
                rw [e2]
                have hfr : frOf pre = !y.f2 := by rw [hm, frOf_snoc]
                rw [hfr] at c4
                cases hy : y.f2 with
                | true => exact good
                | false => exact absurd ⟨by rw [hy]; rfl, by simpa using hu⟩ c4
            · rw [hi]
              constructor
              · intro h
                exact ⟨c1, c2.1, c2.2, by omega, fun hf => by
                  cases hx : x.f2 with
                  | true => rfl
                  | false => exact absurd ⟨hf, hx⟩ c4, h⟩
              · exact fun h => h.2.2.2.2.2
      · refine ⟨false, Ev.step (fun k => by rw [darningref4_MayBlocks.l0]) ?_, ⟨fun h => (by cases h), fun h => absurd ⟨h.2.1, h.2.2.1⟩ c2⟩⟩
        rw [rdt_mid]
        exact ev_pos hlt (ev_pos (by omega) (ev_pos hlt (ev_pos c1 (ev_bindc (maysize_eq _) (ev_neg (by simp; omega) bad)))))
    · refine ⟨false, Ev.step (fun k => by rw [darningref4_MayBlocks.l0]) ?_, ⟨fun h => (by cases h), fun h => absurd h.1 c1⟩⟩
      rw [rdt_mid]
      exact ev_pos hlt (ev_pos (by omega) (ev_pos hlt (ev_neg c1 bad)))
theorem mayb_ev {l : List S35} (words : Int) (hl : l.length ≤ 100000) : ∃ b, Ev (fun k => darningref4_MayBlocks.f k l words) b ∧ (b = true ↔ MayB l words) := by
  unfold darningref4_MayBlocks.f
  by_cases h : 8 ≤ words ∧ words ≤ 512 ∧ words % 8 = 0
  · obtain ⟨b, hb, hi⟩ := mayb_l0 h.2.1 l [] 0 (by omega) (by omega) hl
    refine ⟨b, ev_bindc (rmayw_eq words) (ev_pos (by simp [h]) hb), hi.trans ⟨fun hh => ⟨h, hh⟩, fun hh => hh.2⟩⟩
  · exact ⟨false, ev_bindc (rmayw_eq words) (ev_neg (by simpa using h) (Ev.now _)), ⟨fun hh => (by cases hh), fun hh => absurd hh.1 h⟩⟩
theorem mayb_yes {l : List S35} {words : Int} (hl : l.length ≤ 100000) (h : MayB l words) : Ev (fun k => darningref4_MayBlocks.f k l words) true := by
  obtain ⟨b, hb, hi⟩ := mayb_ev words hl
  rwa [hi.2 h] at hb
theorem mayb_no {l : List S35} {words : Int} (hl : l.length ≤ 100000) (h : ¬ MayB l words) : Ev (fun k => darningref4_MayBlocks.f k l words) false := by
  obtain ⟨b, hb, hi⟩ := mayb_ev words hl
  cases b with
  | true => exact absurd (hi.1 rfl) h
  | false => exact hb
theorem rparse_eq {w : Int} (h : 0 ≤ w ∧ w ≤ 18446744073709551615) :
    darningref4_ParseWord.f w = if 2 ≤ w / 2 ∧ w / 2 ≤ 512 then some (w / 2, w % 2 == 1, true) else some (0, false, false) := by
  unfold darningref4_ParseWord.f
  rw [u64_and1 h.1 h.2, w64 (by omega)]
  by_cases h1 : w / 2 < 2
  · rw [if_pos h1, if_neg (by omega)]
  · rw [if_neg h1]
    by_cases h3 : w / 2 > 512
    · rw [if_pos h3, if_neg (by omega)]
    · rw [if_neg h3, if_pos (by omega)]
theorem rblocks_l0 {w : List Int} (hw : Wds w) (d : Nat) : ∀ (acc : List S35) (a : Int), 0 ≤ a → (w.length : Int) ≤ a + d → a ≤ 3000 → (acc.length : Int) ≤ a →
    ∃ r, Ev (fun k => darningref4_Blocks.l0 k w acc a) r ∧ ((∃ l, ParseP w a l ∧ MayB (acc ++ l) w.length ∧ r = (acc ++ l, true)) ∨ ((∀ l, ParseP w a l → ¬ MayB (acc ++ l) w.length) ∧ r = ([], false))) := by
  have hlen := hw.1
  have fin : ∀ (acc : List S35) (a : Int), 0 ≤ a → (w.length : Int) ≤ a → a ≤ 3000 → (acc.length : Int) ≤ a →
      ∃ r, Ev (fun k => darningref4_Blocks.l0 k w acc a) r ∧ ((∃ l, ParseP w a l ∧ MayB (acc ++ l) w.length ∧ r = (acc ++ l, true)) ∨ ((∀ l, ParseP w a l → ¬ MayB (acc ++ l) w.length) ∧ r = ([], false))) := by
    intro acc a h0 h1 h2 h3
    obtain ⟨b, hb, hi⟩ := mayb_ev (l := acc) (w.length : Int) (by omega)
    have pn : ∀ l, ParseP w a l → l = [] := fun l hl => by
      cases l with
      | nil => rfl
      | cons c l => have := hl.1; omega
    cases b with
    | true =>
      refine ⟨(acc, true), Ev.step (fun k => by rw [darningref4_Blocks.l0]) ?_, Or.inl ⟨[], h1, by rw [List.append_nil]; exact hi.1 rfl, by rw [List.append_nil]⟩⟩
      exact ev_neg (by omega) (ev_bind hb (ev_pos rfl (Ev.now _)))
    | false =>
      refine ⟨([], false), Ev.step (fun k => by rw [darningref4_Blocks.l0]) ?_, Or.inr ⟨fun l hl hm => ?_, rfl⟩⟩
      · exact ev_neg (by omega) (ev_bind hb (ev_neg (by decide) (Ev.now _)))
      · rw [pn l hl, List.append_nil] at hm
        have := hi.2 hm
        cases this
  induction d with
  | zero => intro acc a h0 h1; exact fin acc a h0 (by omega)
  | succ d ih =>
    intro acc a h0 h1 h2 h3
    by_cases ha : (w.length : Int) ≤ a
    · exact fin acc a h0 ha h2 h3
    · have hr := hw.2 a
      by_cases hp : 2 ≤ rd w a / 2 ∧ rd w a / 2 ≤ 512
      · obtain ⟨r, hb, hi⟩ := ih (acc ++ [(⟨a, rd w a / 2, rd w a % 2 == 1⟩ : S35)]) (a + rd w a / 2) (by omega) (by omega) (by omega) (by simp; omega)
        refine ⟨r, Ev.step (fun k => by rw [darningref4_Blocks.l0]) ?_, ?_⟩
        · rw [rparse_eq hr, if_pos hp]
          refine ev_pos (by omega) (ev_pos h0 (ev_bindc rfl ?_))
          refine ev_pos rfl (ev_pos (by omega) ?_)
          rw [w64 (n := a + rd w a / 2) (by omega)]
          exact hb
        · rcases hi with ⟨l, q1, q2, q3⟩ | ⟨q1, q2⟩
          · refine Or.inl ⟨(⟨a, rd w a / 2, rd w a % 2 == 1⟩ : S35) :: l, ⟨by omega, rfl, hp.1, hp.2, rfl, rfl, q1⟩, ?_, ?_⟩
            · rw [List.append_assoc] at q2; exact q2
            · rw [q3, List.append_assoc]; rfl
          · refine Or.inr ⟨fun l hl => ?_, q2⟩
            cases l with
            | nil => have hl : (w.length : Int) ≤ a := hl; omega
            | cons b l =>
              obtain ⟨b0, b1, b2, b3, b4, b5, b6⟩ := hl
              have e : b = (⟨a, rd w a / 2, rd w a % 2 == 1⟩ : S35) := blk_ext b1 b4 b5
              rw [b4] at b6
              have := q1 l b6
              rw [List.append_assoc] at this
              rw [e]; exact this
      · refine ⟨([], false), Ev.step (fun k => by rw [darningref4_Blocks.l0]) ?_, Or.inr ⟨fun l hl => ?_, rfl⟩⟩
        · rw [rparse_eq hr, if_neg hp]
          exact ev_pos (by omega) (ev_pos h0 (ev_bindc rfl (ev_neg (by decide) (Ev.now _))))
        · cases l with
          | nil => have hl : (w.length : Int) ≤ a := hl; omega
          | cons b l => exact absurd ⟨hl.2.2.1, hl.2.2.2.1⟩ hp
theorem rblocks_ev {w : List Int} (hw : Wds w) : ∃ r, Ev (fun k => darningref4_Blocks.f k w) r ∧ BlocksP w r := by
  have hlen := hw.1
  obtain ⟨r, h1, h2⟩ := rblocks_l0 hw w.length [] 0 (by omega) (by omega) (by omega) (by simp)
  refine ⟨r, h1, ?_⟩
  rcases h2 with ⟨l, a, b, c⟩ | ⟨a, b⟩
  · rw [c]; exact Or.inl ⟨a, b, rfl⟩
  · exact Or.inr ⟨a, b⟩
def sumS : List S35 → Int
  | [] => 0
  | b :: l => b.f1 + sumS l
theorem chain_app {words : Int} (suf : List S35) (pre : List S35) : ∀ {a : Int} {fr : Bool}, ChainP words a fr (pre ++ suf) → ∃ fr', ChainP words (a + sumS pre) fr' suf := by
  induction pre with
  | nil => intro a fr h; exact ⟨fr, by show ChainP words (a + 0) fr suf; rw [Int.add_zero]; exact h⟩
  | cons b pre ih =>
    intro a fr h
    obtain ⟨c0, c1, c2, c3, c4, c5⟩ := h
    obtain ⟨fr', h'⟩ := ih c5
    refine ⟨fr', ?_⟩
    show ChainP words (a + (b.f1 + sumS pre)) fr' suf
    rw [← Int.add_assoc]; exact h'
theorem chain_total {words : Int} (l : List S35) {a : Int} {fr : Bool} (h : ChainP words a fr l) : words = a + sumS l := by
  obtain ⟨fr', h'⟩ := chain_app [] l (by rw [List.append_nil]; exact h)
  have h' : a + sumS l = words := h'
  omega
def lastFr : Bool → List S35 → Bool
  | fr, [] => fr
  | _, b :: l => lastFr (!b.f2) l
theorem sumS_app (P R : List S35) : sumS (P ++ R) = sumS P + sumS R := by
  induction P with
  | nil => show sumS R = 0 + sumS R; omega
  | cons b P ih => show b.f1 + sumS (P ++ R) = (b.f1 + sumS P) + sumS R; rw [ih]; omega
theorem chain_snd {words : Int} (P R : List S35) : ∀ {a : Int} {fr : Bool}, ChainP words a fr (P ++ R) → ChainP words (a + sumS P) (lastFr fr P) R := by
  induction P with
  | nil => intro a fr h; show ChainP words (a + 0) fr R; rw [Int.add_zero]; exact h
  | cons b P ih =>
    intro a fr h
    obtain ⟨h0, h1, h2, h3, h4, h5⟩ := h
    have := ih h5
    show ChainP words (a + (b.f1 + sumS P)) (lastFr (!b.f2) P) R
    rw [← Int.add_assoc]; exact this
theorem sumS_nn {words : Int} (P R : List S35) {a : Int} {fr : Bool} (h : ChainP words a fr (P ++ R)) : 2 * (P.length : Int) ≤ sumS P ∧ a + sumS P + 2 * R.length ≤ words := by
  constructor
  · have : ∀ b ∈ P, 2 ≤ b.f1 := fun b hb => (chain_mem h b (List.mem_append_left _ hb)).2.1
    clear h
    induction P with
    | nil => show 2 * ((0 : Nat) : Int) ≤ 0; omega
    | cons b P ih =>
      have h1 := ih (fun c hc => this c (List.mem_cons_of_mem _ hc))
      have h2 := this b List.mem_cons_self
      show 2 * (((P.length + 1 : Nat)) : Int) ≤ b.f1 + sumS P
      omega
  · exact chain_len (chain_snd P R h)
def IsB (l : List S35) : Prop := MayB l (sumS l)
theorem isb_of {l : List S35} {w : Int} (h : MayB l w) : w = sumS l := by have := chain_total l h.2; omega
-- sums of sizes, as the program and the reference count them
theorem mwords_l0 (l : List S35) (hl : l.length ≤ 100000) (suf : List S35) : ∀ pre : List S35, l = pre ++ suf → (∀ b ∈ pre, 2 ≤ b.f1 ∧ b.f1 ≤ 512) → 0 ≤ sumS pre → sumS pre ≤ 1024 →
    ∃ t, Ev (fun k => merge_words.l0 k (sumS pre) l (l.length : Int) (pre.length : Int)) t ∧ ((∃ w, MayB l w) → t = sumS l) ∧ (t = sumS l ∨ t = 0) ∧ ((∀ b ∈ l, 2 ≤ b.f1 ∧ b.f1 ≤ 512) → sumS l ≤ 512 → t = sumS l) := by
  induction suf with
  | nil =>
    intro pre e hp h0 h1
    rw [List.append_nil] at e
    subst e
    exact ⟨sumS l, Ev.step (fun k => by rw [merge_words.l0]) (ev_neg (by simp) (Ev.now _)), fun _ => rfl, .inl rfl, fun _ _ => rfl⟩
  | cons x suf ih =>
    intro pre e hp h0 h1
    have hlt : (pre.length : Int) < (l.length : Int) := by rw [e]; simp; omega
    have ex : rd_T35 l (pre.length : Int) = x := by rw [e]; exact rdt_mid pre suf x
    by_cases c1 : 2 ≤ x.f1 ∧ x.f1 ≤ 512
    · by_cases c2 : sumS pre > 512
      · have big : (∀ b ∈ l, 2 ≤ b.f1 ∧ b.f1 ≤ 512) → ¬ sumS l ≤ 512 := by
          intro hb hs
          rw [e, sumS_app] at hs
          have : ∀ m : List S35, (∀ b ∈ m, 2 ≤ b.f1 ∧ b.f1 ≤ 512) → 0 ≤ sumS m := by
            intro m
            induction m with
            | nil => intro _; exact Int.le_refl _
            | cons c m ihm => intro hc; have q1 := hc c List.mem_cons_self; have q2 := ihm (fun d hd => hc d (List.mem_cons_of_mem _ hd)); show 0 ≤ c.f1 + sumS m; omega
          have q := this (x :: suf) (fun b hb' => hb b (by rw [e]; exact List.mem_append_right _ hb'))
          omega
        refine ⟨0, Ev.step (fun k => by rw [merge_words.l0]) ?_, fun ⟨w, hw⟩ => ?_, .inr rfl, fun hb hs => absurd hs (big hb)⟩
        · rw [ex]
          exact ev_pos hlt (ev_pos (by omega) (ev_pos hlt (ev_bindc (bmay_eq _) (ev_pos (by simp [c1]) (ev_pos c2 (Ev.now _))))))
        · have ht := chain_total l hw.2
          have hw1 := hw.1
          unfold MayW at hw1
          exact absurd (by omega : sumS l ≤ 512) (big (fun b hb => ⟨(chain_mem hw.2 b hb).2.1, (chain_mem hw.2 b hb).2.2.1⟩))
      · obtain ⟨t, ht, hi⟩ := ih (pre ++ [x]) (by rw [e]; simp) (by
          intro b hb
          rcases List.mem_append.1 hb with hb | hb
          · exact hp b hb
          · rw [List.mem_singleton.1 hb]; exact c1) (by rw [sumS_app]; show 0 ≤ sumS pre + (x.f1 + 0); omega) (by rw [sumS_app]; show sumS pre + (x.f1 + 0) ≤ 1024; omega)
        have es : sumS (pre ++ [x]) = sumS pre + x.f1 := by rw [sumS_app]; show sumS pre + (x.f1 + 0) = _; omega
        refine ⟨t, Ev.step (fun k => by rw [merge_words.l0]) ?_, hi⟩
        rw [ex, w64 (n := sumS pre + x.f1) (by omega), w64 (n := (pre.length : Int) + 1) (by omega)]
        refine ev_pos hlt (ev_pos (by omega) (ev_pos hlt (ev_bindc (bmay_eq _) (ev_pos (by simp [c1]) (ev_neg c2 ?_)))))
        rw [es] at ht
        simpa using ht
    · refine ⟨0, Ev.step (fun k => by rw [merge_words.l0]) ?_, fun ⟨w, hw⟩ => ?_, .inr rfl, fun hb _ => absurd (hb x (by rw [e]; simp)) c1⟩
      · rw [ex]
        exact ev_pos hlt (ev_pos (by omega) (ev_pos hlt (ev_bindc (bmay_eq _) (ev_neg (by simp; omega) (Ev.now _)))))
      · have := chain_mem hw.2 x (by rw [e]; simp)
        omega
theorem mwords_ev {l : List S35} (hl : l.length ≤ 100000) : ∃ t, Ev (fun k => merge_words.f k l) t ∧ ((∃ w, MayB l w) → t = sumS l) ∧ (t = sumS l ∨ t = 0) ∧ ((∀ b ∈ l, 2 ≤ b.f1 ∧ b.f1 ≤ 512) → sumS l ≤ 512 → t = sumS l) :=
  mwords_l0 l hl l [] rfl (fun b hb => nomatch hb) (Int.le_refl _) (by show (0 : Int) ≤ 1024; omega)
theorem mwords_sum {l : List S35} (hl : l.length ≤ 100000) (h : ∀ b ∈ l, 2 ≤ b.f1 ∧ b.f1 ≤ 512) (hs : sumS l ≤ 512) : Ev (fun k => merge_words.f k l) (sumS l) := by
  obtain ⟨t, ht, _, _, h3⟩ := mwords_ev hl
  rwa [h3 h hs] at ht
-- which blocks become one
def mFrom (l : List S35) (i : Int) : Int := if i > 0 ∧ (rd_T35 l (i - 1)).f2 = false then i - 1 else i
def mTo (l : List S35) (i : Int) : Int := if i + 1 < l.length ∧ (rd_T35 l (i + 1)).f2 = false then i + 2 else i + 1
def Can (l : List S35) (i : Int) : Prop := IsB l ∧ 0 ≤ i ∧ i < l.length ∧ (rd_T35 l i).f2 = true
theorem around_yes {l : List S35} {i : Int} (hl : l.length ≤ 100000) (h : Can l i) : Ev (fun k => merge_around.f k l i) (mFrom l i, mTo l i, true) := by
  obtain ⟨h1, h2, h3, h4⟩ := h
  unfold merge_around.f
  obtain ⟨t, ht, hi, _⟩ := mwords_ev hl
  rw [hi ⟨_, h1⟩] at ht
  refine ev_bind ht (ev_bind (cmay_yes hl h1) (ev_pos rfl (ev_neg (by omega) (ev_neg (by omega) (ev_pos h2 (ev_pos h3 ?_))))))
  rw [h4]
  refine Ev.step (fun k => by rw [merge_around.j0]) ?_
  refine ev_neg (by decide) ?_
  rw [w64 (n := i - 1) (by omega), w64 (n := i + 1) (by omega)]
  have go : ∀ b : Bool, (b = true ↔ (i > 0 ∧ (rd_T35 l (i - 1)).f2 = false)) → Ev (fun k => merge_around.j1 k l i (i + 1) b) (mFrom l i, mTo l i, true) := by
    intro b hb
    refine Ev.step (fun k => by rw [merge_around.j1]) ?_
    rw [w64 (n := i - 1) (by omega), w64 (n := i + 1 + 1) (by omega)]
    unfold mFrom mTo
    refine ev_ite (fun c => ?_) (fun c => ?_)
    · rw [if_pos (hb.1 c)]
      refine ev_ite (fun d => ev_pos (by omega) (ev_ite (fun e => ?_) (fun e => ?_))) (fun d => ?_)
      · rw [if_neg (by simp [e])]; exact Ev.now _
      · rw [if_pos ⟨d, by simpa using e⟩, show i + 1 + 1 = i + 2 from by omega]; exact Ev.now _
      · rw [if_neg (fun hh => d hh.1)]; exact Ev.now _
    · rw [if_neg (fun hh => c (hb.2 hh))]
      refine ev_ite (fun d => ev_pos (by omega) (ev_ite (fun e => ?_) (fun e => ?_))) (fun d => ?_)
      · rw [if_neg (by simp [e])]; exact Ev.now _
      · rw [if_pos ⟨d, by simpa using e⟩, show i + 1 + 1 = i + 2 from by omega]; exact Ev.now _
      · rw [if_neg (fun hh => d hh.1)]; exact Ev.now _
  refine ev_ite (fun c => ev_pos (by omega) (ev_pos (by omega) (go _ ?_))) (fun c => go _ ?_)
  · simp [c]
  · simp [c]
theorem around_no {l : List S35} {i : Int} (hl : l.length ≤ 100000) (h : ¬ Can l i) : Ev (fun k => merge_around.f k l i) (0, 0, false) := by
  unfold merge_around.f
  obtain ⟨t, ht, hi, ho, _⟩ := mwords_ev hl
  have out : Ev (fun k => merge_around.j0 k l i true) (0, 0, false) := by
    refine Ev.step (fun k => by rw [merge_around.j0]) ?_
    exact ev_pos rfl (Ev.now _)
  refine ev_bind ht ?_
  by_cases hm : MayB l t
  · have e : t = sumS l := isb_of hm
    refine ev_bind (cmay_yes hl hm) (ev_pos rfl (ev_ite (fun _ => out) (fun c1 => ev_ite (fun _ => out) (fun c2 => ev_pos (by omega) (ev_pos (by omega) ?_)))))
    have : (rd_T35 l i).f2 = false := by
      cases hu : (rd_T35 l i).f2 with
      | false => rfl
      | true => exact absurd ⟨by unfold IsB; rw [← e]; exact hm, by omega, by omega, hu⟩ h
    rw [this]; exact out
  · exact ev_bind (cmay_no hl hm) (ev_neg (by decide) out)
theorem from_to {l : List S35} {i : Int} (h : 0 ≤ i ∧ i < l.length) : 0 ≤ mFrom l i ∧ mFrom l i ≤ i ∧ i < mTo l i ∧ mTo l i ≤ l.length := by
  unfold mFrom mTo
  refine ⟨?_, ?_, ?_, ?_⟩
  · split <;> omega
  · split <;> omega
  · split <;> omega
  · split <;> omega
def mP (l : List S35) (i : Int) : List S35 := l.take (mFrom l i).toNat
def mM (l : List S35) (i : Int) : List S35 := (l.take (mTo l i).toNat).drop (mFrom l i).toNat
def mQ (l : List S35) (i : Int) : List S35 := l.drop (mTo l i).toNat
theorem m_split {l : List S35} {i : Int} (h : 0 ≤ i ∧ i < l.length) : l = mP l i ++ mM l i ++ mQ l i := by
  have hf := from_to h
  unfold mP mM mQ
  rw [show l.take (mFrom l i).toNat = (l.take (mTo l i).toNat).take (mFrom l i).toNat from by rw [List.take_take, Nat.min_eq_left (by omega)], List.take_append_drop, List.take_append_drop]
def mrg (l : List S35) (i : Int) : List S35 := mP l i ++ [⟨(rd_T35 l (mFrom l i)).f0, sumS (mM l i), false⟩] ++ mQ l i
theorem mM_good {l : List S35} {i : Int} (h : IsB l) (hi : 0 ≤ i ∧ i < l.length) : (∀ b ∈ mM l i, 2 ≤ b.f1 ∧ b.f1 ≤ 512) ∧ sumS (mM l i) ≤ 512 := by
  have e := m_split hi
  have hc := h.2
  have hw := h.1
  unfold MayW at hw
  constructor
  · intro b hb
    have := chain_mem hc b (by rw [e]; exact List.mem_append_left _ (List.mem_append_right _ hb))
    omega
  · generalize hs : sumS l = w at hc hw
    rw [e, List.append_assoc] at hc
    have n1 := sumS_nn _ _ hc
    have n2 := sumS_nn _ _ (chain_snd _ _ hc)
    omega
theorem mM_len {l : List S35} {i : Int} (hi : 0 ≤ i ∧ i < l.length) : (mM l i).length ≤ 3 := by
  unfold mM
  rw [List.length_drop, List.length_take]
  unfold mFrom mTo
  split <;> split <;> omega
def hWordM (n : Int) (u : Bool) : Int := if 2 ≤ n ∧ n ≤ 512 then 2 * n + (if u then 1 else 0) else 0
theorem medit_yes {l : List S35} {i : Int} (hl : l.length ≤ 1000) (h : Can l i) : Ev (fun k => merge_Edit.f k l i) ((rd_T35 l (mFrom l i)).f0, hWordM (sumS (mM l i)) false, true) := by
  have hi : 0 ≤ i ∧ i < l.length := ⟨h.2.1, h.2.2.1⟩
  have ft := from_to hi
  have g := mM_good h.1 hi
  have n := mM_len hi
  unfold merge_Edit.f
  refine ev_bind (around_yes (by omega) h) (ev_pos rfl (ev_pos ft.1 (ev_pos (by show mFrom l i < _; omega) (ev_pos (by show mFrom l i ≤ mTo l i; omega) (ev_pos ft.2.2.2 ?_)))))
  exact ev_bind (mwords_sum (l := mM l i) (by omega) g.1 g.2) (ev_bindc (word_eq _ _) (Ev.now _))
theorem medit_no {l : List S35} {i : Int} (hl : l.length ≤ 1000) (h : ¬ Can l i) : Ev (fun k => merge_Edit.f k l i) (0, 0, false) := by
  unfold merge_Edit.f
  exact ev_bind (around_no (by omega) h) (ev_neg (by decide) (Ev.now _))
theorem sizes_l0 (l : List S35) (hl : l.length ≤ 100000) (suf : List S35) : ∀ pre : List S35, l = pre ++ suf → 0 ≤ sumS pre → sumS pre ≤ 1000 * pre.length →
    ∃ t, Ev (fun k => darningref4_sizes.l0 k (sumS pre) l (l.length : Int) (pre.length : Int)) t ∧ ((∃ w, MayB l w) → t = sumS l) ∧ (t = sumS l ∨ t = 0) := by
  induction suf with
  | nil =>
    intro pre e h0 h1
    rw [List.append_nil] at e
    subst e
    exact ⟨sumS l, Ev.step (fun k => by rw [darningref4_sizes.l0]) (ev_neg (by simp) (Ev.now _)), fun _ => rfl, .inl rfl⟩
  | cons x suf ih =>
    intro pre e h0 h1
    have hlt : (pre.length : Int) < (l.length : Int) := by rw [e]; simp; omega
    have ex : rd_T35 l (pre.length : Int) = x := by rw [e]; exact rdt_mid pre suf x
    have bad : ¬ (2 ≤ x.f1 ∧ x.f1 ≤ 512) → ¬ ∃ w, MayB l w := by
      rintro hx ⟨w, hw⟩
      have := chain_mem hw.2 x (by rw [e]; simp)
      omega
    by_cases c1 : x.f1 < 0
    · refine ⟨0, Ev.step (fun k => by rw [darningref4_sizes.l0]) ?_, fun hw => absurd hw (bad (by omega)), .inr rfl⟩
      rw [ex]
      exact ev_pos hlt (ev_pos (by omega) (ev_pos hlt (ev_pos c1 (Ev.now _))))
    · by_cases c2 : x.f1 > 1000
      · refine ⟨0, Ev.step (fun k => by rw [darningref4_sizes.l0]) ?_, fun hw => absurd hw (bad (by omega)), .inr rfl⟩
        rw [ex]
        exact ev_pos hlt (ev_pos (by omega) (ev_pos hlt (ev_neg c1 (ev_pos c2 (Ev.now _)))))
      · have es : sumS (pre ++ [x]) = sumS pre + x.f1 := by rw [sumS_app]; show sumS pre + (x.f1 + 0) = _; omega
        obtain ⟨t, ht, hi⟩ := ih (pre ++ [x]) (by rw [e]; simp) (by omega) (by rw [es]; simp; omega)
        refine ⟨t, Ev.step (fun k => by rw [darningref4_sizes.l0]) ?_, hi⟩
        rw [ex, w64 (n := sumS pre + x.f1) (by omega), w64 (n := (pre.length : Int) + 1) (by omega)]
        refine ev_pos hlt (ev_pos (by omega) (ev_pos hlt (ev_neg c1 (ev_neg c2 ?_))))
        rw [es] at ht
        simpa using ht
theorem sizes_ev {l : List S35} (hl : l.length ≤ 100000) : ∃ t, Ev (fun k => darningref4_sizes.f k l) t ∧ ((∃ w, MayB l w) → t = sumS l) ∧ (t = sumS l ∨ t = 0) :=
  sizes_l0 l hl l [] rfl (Int.le_refl _) (Int.le_refl _)
theorem rmerged_no {l : List S35} {i : Int} (hl : l.length ≤ 1000) (h : ¬ Can l i) : Ev (fun k => darningref4_Merged.f k l i) ([], 0, false) := by
  unfold darningref4_Merged.f
  obtain ⟨t, ht, hi, ho⟩ := sizes_ev (l := l) (by omega)
  have out : Ev (fun k => darningref4_Merged.j0 k l i true) ([], 0, false) := by
    refine Ev.step (fun k => by rw [darningref4_Merged.j0]) ?_
    exact ev_pos rfl (Ev.now _)
  refine ev_bind ht ?_
  by_cases hm : MayB l t
  · have e : t = sumS l := isb_of hm
    refine ev_bind (mayb_yes (by omega) hm) (ev_pos rfl (ev_ite (fun _ => out) (fun c1 => ev_ite (fun _ => out) (fun c2 => ev_pos (by omega) (ev_pos (by omega) ?_)))))
    have : (rd_T35 l i).f2 = false := by
      cases hu : (rd_T35 l i).f2 with
      | false => rfl
      | true => exact absurd ⟨by unfold IsB; rw [← e]; exact hm, by omega, by omega, hu⟩ h
    rw [this]; exact out
  · exact ev_bind (mayb_no (by omega) hm) (ev_neg (by decide) out)
theorem rmerged_l0 {l : List S35} {f t : Int} (hl : l.length ≤ 1000) (h0 : 0 ≤ f) (h1 : f < l.length) (h2 : f ≤ t) (h3 : t ≤ l.length) (M : List S35) (hg : ∀ b ∈ M, 2 ≤ b.f1 ∧ b.f1 ≤ 512) (hM : M.length ≤ 1000) (suf : List S35) : ∀ pre : List S35, M = pre ++ suf → 0 ≤ sumS pre → sumS pre ≤ 512 * pre.length →
    Ev (fun k => darningref4_Merged.l0 k l f t (sumS pre) M (M.length : Int) (pre.length : Int)) (l.take f.toNat ++ [⟨(rd_T35 l f).f0, sumS M, false⟩] ++ l.drop t.toNat, f, true) := by
  induction suf with
  | nil =>
    intro pre e s0 s1
    rw [List.append_nil] at e
    subst e
    refine Ev.step (fun k => by rw [darningref4_Merged.l0]) ?_
    refine ev_neg (by omega) (ev_pos h0 (ev_pos (by omega) (ev_bindc rfl (ev_pos ?_ (ev_bindc rfl (ev_pos h1 (ev_bindc rfl (ev_pos ?_ (ev_bindc rfl (ev_pos (by omega) (ev_pos h3 (ev_bindc rfl (ev_pos ?_ ?_)))))))))))))
    · simp only [List.length_nil, List.length_take]; omega
    · simp only [List.length_nil, List.nil_append, List.length_take, List.length_cons]; omega
    · simp only [List.length_nil, List.nil_append, List.length_take, List.length_cons, List.length_append, List.length_drop]; omega
    · exact Ev.now _
  | cons x suf ih =>
    intro pre e s0 s1
    have hlt : (pre.length : Int) < (M.length : Int) := by rw [e]; simp; omega
    have ex : rd_T35 M (pre.length : Int) = x := by rw [e]; exact rdt_mid pre suf x
    have hx := hg x (by rw [e]; simp)
    have es : sumS (pre ++ [x]) = sumS pre + x.f1 := by rw [sumS_app]; show sumS pre + (x.f1 + 0) = _; omega
    have hi := ih (pre ++ [x]) (by rw [e]; simp) (by omega) (by rw [es]; simp; omega)
    refine Ev.step (fun k => by rw [darningref4_Merged.l0]) ?_
    rw [ex, w64 (n := sumS pre + x.f1) (by omega), w64 (n := (pre.length : Int) + 1) (by omega)]
    refine ev_pos hlt (ev_pos (by omega) (ev_pos hlt ?_))
    rw [es] at hi
    simpa using hi
theorem rmerged_yes {l : List S35} {i : Int} (hl : l.length ≤ 1000) (h : Can l i) : Ev (fun k => darningref4_Merged.f k l i) (mrg l i, mFrom l i, true) := by
  have hi : 0 ≤ i ∧ i < l.length := ⟨h.2.1, h.2.2.1⟩
  have ft := from_to hi
  have g := mM_good h.1 hi
  have n := mM_len hi
  obtain ⟨h1, h2, h3, h4⟩ := h
  unfold darningref4_Merged.f
  obtain ⟨t, ht, ho, _⟩ := sizes_ev (l := l) (by omega)
  rw [ho ⟨_, h1⟩] at ht
  refine ev_bind ht (ev_bind (mayb_yes (by omega) h1) (ev_pos rfl (ev_neg (by omega) (ev_neg (by omega) (ev_pos h2 (ev_pos h3 ?_))))))
  rw [h4]
  have j4 : Ev (fun k => darningref4_Merged.j4 k l (mFrom l i) (mTo l i)) (mrg l i, mFrom l i, true) := by
    refine Ev.step (fun k => by rw [darningref4_Merged.j4]) ?_
    refine ev_pos ft.1 (ev_pos (by omega) (ev_pos ft.2.2.2 (ev_bindc rfl ?_)))
    exact rmerged_l0 hl ft.1 (by omega) (by omega) ft.2.2.2 (mM l i) g.1 (by omega) (mM l i) [] rfl (Int.le_refl _) (Int.le_refl _)
  have j3 : ∀ b : Bool, (b = true ↔ (i + 1 < l.length ∧ (rd_T35 l (i + 1)).f2 = false)) → Ev (fun k => darningref4_Merged.j3 k l (mFrom l i) (i + 1) b) (mrg l i, mFrom l i, true) := by
    intro b hb
    refine Ev.step (fun k => by rw [darningref4_Merged.j3]) ?_
    rw [w64 (n := i + 1 + 1) (by omega)]
    refine ev_ite (fun c => ?_) (fun c => ?_)
    · rw [show i + 1 + 1 = mTo l i from by unfold mTo; rw [if_pos (hb.1 c)]; omega]; exact j4
    · rw [show i + 1 = mTo l i from by unfold mTo; rw [if_neg (fun hh => c (hb.2 hh))]]; exact j4
  have j2 : Ev (fun k => darningref4_Merged.j2 k l (mFrom l i) (i + 1)) (mrg l i, mFrom l i, true) := by
    refine Ev.step (fun k => by rw [darningref4_Merged.j2]) ?_
    refine ev_ite (fun c => ev_pos (by omega) (j3 _ ?_)) (fun c => j3 _ ?_)
    · simp [c]
    · simp [c]
  have j1 : ∀ b : Bool, (b = true ↔ (i > 0 ∧ (rd_T35 l (i - 1)).f2 = false)) → Ev (fun k => darningref4_Merged.j1 k l i (i + 1) b) (mrg l i, mFrom l i, true) := by
    intro b hb
    refine Ev.step (fun k => by rw [darningref4_Merged.j1]) ?_
    rw [w64 (n := i - 1) (by omega)]
    refine ev_ite (fun c => ?_) (fun c => ?_)
    · have e : mFrom l i = i - 1 := by unfold mFrom; rw [if_pos (hb.1 c)]
      rw [← e]; exact j2
    · have e : mFrom l i = i := by unfold mFrom; rw [if_neg (fun hh => c (hb.2 hh))]
      have j2' := j2
      rw [e] at j2' ⊢
      exact j2'
  refine Ev.step (fun k => by rw [darningref4_Merged.j0]) ?_
  refine ev_neg (by decide) ?_
  rw [w64 (n := i - 1) (by omega), w64 (n := i + 1) (by omega)]
  refine ev_ite (fun c => ev_pos (by omega) (ev_pos (by omega) (j1 _ ?_))) (fun c => j1 _ ?_)
  · simp [c]
  · simp [c]
-- sums of sizes, as the program and the reference count them
theorem cwords_l0 (l : List S35) (hl : l.length ≤ 100000) (suf : List S35) : ∀ pre : List S35, l = pre ++ suf → (∀ b ∈ pre, 2 ≤ b.f1 ∧ b.f1 ≤ 512) → 0 ≤ sumS pre → sumS pre ≤ 1024 →
    ∃ t, Ev (fun k => carve_words.l0 k (sumS pre) l (l.length : Int) (pre.length : Int)) t ∧ ((∃ w, MayB l w) → t = sumS l) ∧ (t = sumS l ∨ t = 0) ∧ ((∀ b ∈ l, 2 ≤ b.f1 ∧ b.f1 ≤ 512) → sumS l ≤ 512 → t = sumS l) := by
  induction suf with
  | nil =>
    intro pre e hp h0 h1
    rw [List.append_nil] at e
    subst e
    exact ⟨sumS l, Ev.step (fun k => by rw [carve_words.l0]) (ev_neg (by simp) (Ev.now _)), fun _ => rfl, .inl rfl, fun _ _ => rfl⟩
  | cons x suf ih =>
    intro pre e hp h0 h1
    have hlt : (pre.length : Int) < (l.length : Int) := by rw [e]; simp; omega
    have ex : rd_T35 l (pre.length : Int) = x := by rw [e]; exact rdt_mid pre suf x
    by_cases c1 : 2 ≤ x.f1 ∧ x.f1 ≤ 512
    · by_cases c2 : sumS pre > 512
      · have big : (∀ b ∈ l, 2 ≤ b.f1 ∧ b.f1 ≤ 512) → ¬ sumS l ≤ 512 := by
          intro hb hs
          rw [e, sumS_app] at hs
          have : ∀ m : List S35, (∀ b ∈ m, 2 ≤ b.f1 ∧ b.f1 ≤ 512) → 0 ≤ sumS m := by
            intro m
            induction m with
            | nil => intro _; exact Int.le_refl _
            | cons c m ihm => intro hc; have q1 := hc c List.mem_cons_self; have q2 := ihm (fun d hd => hc d (List.mem_cons_of_mem _ hd)); show 0 ≤ c.f1 + sumS m; omega
          have q := this (x :: suf) (fun b hb' => hb b (by rw [e]; exact List.mem_append_right _ hb'))
          omega
        refine ⟨0, Ev.step (fun k => by rw [carve_words.l0]) ?_, fun ⟨w, hw⟩ => ?_, .inr rfl, fun hb hs => absurd hs (big hb)⟩
        · rw [ex]
          exact ev_pos hlt (ev_pos (by omega) (ev_pos hlt (ev_bindc (bmay_eq _) (ev_pos (by simp [c1]) (ev_pos c2 (Ev.now _))))))
        · have ht := chain_total l hw.2
          have hw1 := hw.1
          unfold MayW at hw1
          exact absurd (by omega : sumS l ≤ 512) (big (fun b hb => ⟨(chain_mem hw.2 b hb).2.1, (chain_mem hw.2 b hb).2.2.1⟩))
      · obtain ⟨t, ht, hi⟩ := ih (pre ++ [x]) (by rw [e]; simp) (by
          intro b hb
          rcases List.mem_append.1 hb with hb | hb
          · exact hp b hb
          · rw [List.mem_singleton.1 hb]; exact c1) (by rw [sumS_app]; show 0 ≤ sumS pre + (x.f1 + 0); omega) (by rw [sumS_app]; show sumS pre + (x.f1 + 0) ≤ 1024; omega)
        have es : sumS (pre ++ [x]) = sumS pre + x.f1 := by rw [sumS_app]; show sumS pre + (x.f1 + 0) = _; omega
        refine ⟨t, Ev.step (fun k => by rw [carve_words.l0]) ?_, hi⟩
        rw [ex, w64 (n := sumS pre + x.f1) (by omega), w64 (n := (pre.length : Int) + 1) (by omega)]
        refine ev_pos hlt (ev_pos (by omega) (ev_pos hlt (ev_bindc (bmay_eq _) (ev_pos (by simp [c1]) (ev_neg c2 ?_)))))
        rw [es] at ht
        simpa using ht
    · refine ⟨0, Ev.step (fun k => by rw [carve_words.l0]) ?_, fun ⟨w, hw⟩ => ?_, .inr rfl, fun hb _ => absurd (hb x (by rw [e]; simp)) c1⟩
      · rw [ex]
        exact ev_pos hlt (ev_pos (by omega) (ev_pos hlt (ev_bindc (bmay_eq _) (ev_neg (by simp; omega) (Ev.now _)))))
      · have := chain_mem hw.2 x (by rw [e]; simp)
        omega
theorem cwords_ev {l : List S35} (hl : l.length ≤ 100000) : ∃ t, Ev (fun k => carve_words.f k l) t ∧ ((∃ w, MayB l w) → t = sumS l) ∧ (t = sumS l ∨ t = 0) ∧ ((∀ b ∈ l, 2 ≤ b.f1 ∧ b.f1 ≤ 512) → sumS l ≤ 512 → t = sumS l) :=
  cwords_l0 l hl l [] rfl (fun b hb => nomatch hb) (Int.le_refl _) (by show (0 : Int) ≤ 1024; omega)
def tk (s need : Int) : Int := if need < 2 ∨ need > s then 0 else if s - need < 2 then s else need
theorem takes_ev {s n : Int} (hs : 2 ≤ s ∧ s ≤ 512) : Ev (fun k => fit_Takes.f k s n) (tk s n) := by
  unfold fit_Takes.f tk
  by_cases c : n < 2
  · rw [if_pos (.inl c)]
    refine ev_pos c (Ev.step (fun k => by rw [fit_Takes.j0]) (ev_pos rfl (Ev.now _)))
  · refine ev_neg c ?_
    by_cases d : n > s
    · rw [if_pos (.inr d), decide_eq_true d]
      exact Ev.step (fun k => by rw [fit_Takes.j0]) (ev_pos rfl (Ev.now _))
    · rw [if_neg (by omega), decide_eq_false d]
      refine Ev.step (fun k => by rw [fit_Takes.j0]) (ev_neg (by decide) ?_)
      rw [w64 (n := s - n) (by omega)]
      refine ev_ite (fun e => ?_) (fun e => ?_)
      · rw [if_pos e]; exact Ev.now _
      · rw [if_neg e]; exact Ev.now _
theorem tk_r {s n : Int} (h : tk s n ≠ 0) (hs : 2 ≤ s) : 2 ≤ tk s n ∧ tk s n ≤ s ∧ (tk s n < s → 2 ≤ s - tk s n) ∧ 2 ≤ n ∧ n ≤ tk s n := by
  unfold tk at h ⊢
  split at h
  · exact absurd rfl h
  · rename_i c
    rw [if_neg c]
    split <;> omega
theorem tk_zero {s n : Int} (hs : 2 ≤ s) : tk s n = 0 ↔ (n < 2 ∨ n > s) := by
  unfold tk
  split
  · rename_i c; exact ⟨fun _ => c, fun _ => rfl⟩
  · rename_i c
    split
    · exact ⟨fun h => by omega, fun h => absurd h c⟩
    · exact ⟨fun h => by omega, fun h => absurd h c⟩
def CanC (l : List S35) (i need : Int) : Prop := IsB l ∧ 0 ≤ i ∧ i < l.length ∧ (rd_T35 l i).f2 = false ∧ tk (rd_T35 l i).f1 need ≠ 0
def tkn (b : S35) (need : Int) : List S35 := ⟨b.f0, tk b.f1 need, true⟩ :: (if tk b.f1 need < b.f1 then [⟨b.f0 + tk b.f1 need, b.f1 - tk b.f1 need, false⟩] else [])
def crv (l : List S35) (i need : Int) : List S35 := l.take i.toNat ++ tkn (rd_T35 l i) need ++ l.drop (i.toNat + 1)
theorem isb_rd {l : List S35} {i : Int} (h : IsB l) (h0 : 0 ≤ i) (h1 : i < l.length) : 0 ≤ (rd_T35 l i).f0 ∧ 2 ≤ (rd_T35 l i).f1 ∧ (rd_T35 l i).f1 ≤ 512 ∧ (rd_T35 l i).f0 + (rd_T35 l i).f1 ≤ 512 := by
  have := chain_rd h.2 h0 h1
  have hw := h.1
  unfold MayW at hw
  omega
theorem taken_yes {l : List S35} {i need : Int} (hl : l.length ≤ 100000) (h : CanC l i need) : Ev (fun k => carve_taken.f k l i need) (tkn (rd_T35 l i) need) := by
  obtain ⟨h1, h2, h3, h4, h5⟩ := h
  have hr := isb_rd h1 h2 h3
  have ht := tk_r h5 hr.2.1
  unfold carve_taken.f
  obtain ⟨t, hw, hi, _⟩ := cwords_ev hl
  rw [hi ⟨_, h1⟩] at hw
  refine ev_bind hw (ev_bind (cmay_yes hl h1) (ev_pos rfl (ev_neg (by omega) (ev_neg (by omega) (ev_pos h2 (ev_pos h3 ?_))))))
  rw [h4]
  refine Ev.step (fun k => by rw [carve_taken.j0]) ?_
  refine ev_neg (by decide) (ev_pos h2 (ev_pos h3 (ev_bind (takes_ev ⟨by omega, by omega⟩) (ev_neg h5 (ev_bindc rfl ?_)))))
  rw [w64 (n := (rd_T35 l i).f0 + tk (rd_T35 l i).f1 need) (by omega), w64 (n := (rd_T35 l i).f1 - tk (rd_T35 l i).f1 need) (by omega)]
  unfold tkn
  refine ev_ite (fun c => ev_pos (by simp) ?_) (fun c => ?_)
  · rw [if_pos c]; exact Ev.now _
  · rw [if_neg c]; exact Ev.now _
def hWord (n : Int) (u : Bool) : Int := if 2 ≤ n ∧ n ≤ 512 then 2 * n + (if u then 1 else 0) else 0
def noughts (a k : Int) : Nat → List S30
  | 0 => []
  | n + 1 => ⟨a + k, 0⟩ :: noughts a (k + 1) n
theorem noughts_len (a : Int) (n : Nat) : ∀ k, (noughts a k n).length = n := by
  induction n with
  | zero => intro k; rfl
  | succ n ih => intro k; show (noughts a (k + 1) n).length + 1 = n + 1; rw [ih]
def eds (b : S35) (need : Int) : List S30 :=
  ⟨b.f0, hWord (tk b.f1 need) true⟩ :: (noughts b.f0 1 (tk b.f1 need - 1).toNat ++ (if tk b.f1 need < b.f1 then [⟨b.f0 + tk b.f1 need, hWord (b.f1 - tk b.f1 need) false⟩] else []))
theorem eds_l1 (l : List S35) (n b0 b1 : Int) (r : List S30) (u : Bool) (hb : 0 ≤ b0 ∧ b0 ≤ 1000 ∧ b1 ≤ 1000) (d : Nat) : ∀ (acc : List S30) (k : Int), 0 ≤ k → k + d = b1 → u = true → acc.length + d ≤ 100000 →
    Ev (fun j => carve_Edits.l0 j (acc ++ noughts b0 k d) l (l.length : Int) (wrap64 (n + 1))) r →
    Ev (fun j => carve_Edits.l1 j acc k l (l.length : Int) n b0 b1 u) r := by
  induction d with
  | zero =>
    intro acc k h0 h1 hu hl hg
    refine Ev.step (fun j => by rw [carve_Edits.l1]) ?_
    refine ev_neg (by omega) ?_
    have e : acc ++ noughts b0 k 0 = acc := List.append_nil _
    rwa [e] at hg
  | succ d ih =>
    intro acc k h0 h1 hu hl hg
    refine Ev.step (fun j => by rw [carve_Edits.l1]) ?_
    refine ev_pos (by omega) (ev_pos hu (ev_pos (by omega) ?_))
    rw [w64 (n := b0 + k) (by omega), w64 (n := k + 1) (by omega)]
    refine ih (acc ++ [⟨b0 + k, 0⟩]) (k + 1) (by omega) (by omega) hu (by simp; omega) ?_
    have e : acc ++ noughts b0 k (d + 1) = acc ++ [⟨b0 + k, 0⟩] ++ noughts b0 (k + 1) d := by
      show acc ++ (⟨b0 + k, 0⟩ :: noughts b0 (k + 1) d) = _
      simp
    rwa [e] at hg
theorem cedits_yes {l : List S35} {i need : Int} (hl : l.length ≤ 1000) (h : CanC l i need) : Ev (fun k => carve_Edits.f k l i need) (eds (rd_T35 l i) need) := by
  have hr := isb_rd h.1 h.2.1 h.2.2.1
  have ht := tk_r h.2.2.2.2 hr.2.1
  unfold carve_Edits.f
  refine ev_bind (taken_yes (by omega) h) ?_
  generalize hb : rd_T35 l i = b at hr ht
  unfold tkn eds
  generalize tk b.f1 need = t at ht
  by_cases c : t < b.f1
  · rw [if_pos c, if_pos c]
    have hL : (([⟨b.f0, t, true⟩, ⟨b.f0 + t, b.f1 - t, false⟩] : List S35).length : Int) = 2 := rfl
    refine Ev.step (fun j => by rw [carve_Edits.l0]) ?_
    refine ev_pos (by simp) (ev_pos (by decide) (ev_pos (by simp) ?_))
    rw [show rd_T35 ([⟨b.f0, t, true⟩, ⟨b.f0 + t, b.f1 - t, false⟩] : List S35) 0 = ⟨b.f0, t, true⟩ from rfl]
    refine ev_bindc (word_eq t true) (ev_pos (by simp) ?_)
    refine eds_l1 _ 0 b.f0 t _ true ⟨by omega, by omega, by omega⟩ (t - 1).toNat _ 1 (by omega) (by omega) rfl (by simp; omega) ?_
    refine Ev.step (fun j => by rw [carve_Edits.l0]) ?_
    rw [show wrap64 ((0 : Int) + 1) = 1 from w64 (by decide)]
    refine ev_pos (by simp) (ev_pos (by decide) (ev_pos (by simp) ?_))
    rw [show rd_T35 ([⟨b.f0, t, true⟩, ⟨b.f0 + t, b.f1 - t, false⟩] : List S35) 1 = ⟨b.f0 + t, b.f1 - t, false⟩ from rfl]
    refine ev_bindc (word_eq (b.f1 - t) false) (ev_pos (by rw [List.length_append, noughts_len]; simp; omega) ?_)
    refine Ev.step (fun j => by rw [carve_Edits.l1]) ?_
    refine ev_pos (by have := ht.2.2.1 c; dsimp only; omega) (ev_neg (by simp) ?_)
    refine Ev.step (fun j => by rw [carve_Edits.l0]) ?_
    rw [show wrap64 ((1 : Int) + 1) = 2 from w64 (by decide)]
    refine ev_neg (by simp) (ev_now ?_)
    unfold hWord
    simp
  · rw [if_neg c, if_neg c]
    refine Ev.step (fun j => by rw [carve_Edits.l0]) ?_
    refine ev_pos (by simp) (ev_pos (by decide) (ev_pos (by simp) ?_))
    rw [show rd_T35 ([⟨b.f0, t, true⟩] : List S35) 0 = ⟨b.f0, t, true⟩ from rfl]
    refine ev_bindc (word_eq t true) (ev_pos (by simp) ?_)
    refine eds_l1 _ 0 b.f0 t _ true ⟨by omega, by omega, by omega⟩ (t - 1).toNat _ 1 (by omega) (by omega) rfl (by simp; omega) ?_
    refine Ev.step (fun j => by rw [carve_Edits.l0]) ?_
    rw [show wrap64 ((0 : Int) + 1) = 1 from w64 (by decide)]
    refine ev_neg (by simp) (ev_now ?_)
    unfold hWord
    simp
theorem eds_len {b : S35} {need : Int} (h : 2 ≤ tk b.f1 need) : ((eds b need).length : Int) = tk b.f1 need + (if tk b.f1 need < b.f1 then 1 else 0) := by
  unfold eds
  rw [List.length_cons, List.length_append, noughts_len]
  split
  · simp only [List.length_cons, List.length_nil]; omega
  · simp only [List.length_nil]; omega
theorem rtakes_ev {s n : Int} (hs : 2 ≤ s ∧ s ≤ 512) : Ev (fun k => darningref4_Takes.f k s n) (tk s n) := by
  unfold darningref4_Takes.f tk
  by_cases c : n < 2
  · rw [if_pos (.inl c)]
    refine ev_pos c (Ev.step (fun k => by rw [darningref4_Takes.j0]) (ev_pos rfl (Ev.now _)))
  · refine ev_neg c ?_
    by_cases d : n > s
    · rw [if_pos (.inr d), decide_eq_true d]
      exact Ev.step (fun k => by rw [darningref4_Takes.j0]) (ev_pos rfl (Ev.now _))
    · rw [if_neg (by omega), decide_eq_false d]
      refine Ev.step (fun k => by rw [darningref4_Takes.j0]) (ev_neg (by decide) ?_)
      rw [w64 (n := s - n) (by omega)]
      refine ev_ite (fun e => ?_) (fun e => ?_)
      · rw [if_pos e]; exact Ev.now _
      · rw [if_neg e]; exact Ev.now _
theorem rcarved_yes {l : List S35} {i need : Int} (hl : l.length ≤ 1000) (h : CanC l i need) : Ev (fun k => darningref4_Carved.f k l i need) (crv l i need, true) := by
  obtain ⟨h1, h2, h3, h4, h5⟩ := h
  have hr := isb_rd h1 h2 h3
  have ht := tk_r h5 hr.2.1
  unfold darningref4_Carved.f
  obtain ⟨t, hs, ho, _⟩ := sizes_ev (l := l) (by omega)
  rw [ho ⟨_, h1⟩] at hs
  refine ev_bind hs (ev_bind (mayb_yes (by omega) h1) (ev_pos rfl (ev_neg (by omega) (ev_neg (by omega) (ev_pos h2 (ev_pos h3 (ev_neg (by rw [h4]; decide) (ev_bind (rtakes_ev ⟨by omega, by omega⟩) ?_))))))))
  rw [show (tk (rd_T35 l i).f1 need == 0) = false from by simpa using h5]
  refine Ev.step (fun k => by rw [darningref4_Carved.j0]) ?_
  rw [w64 (n := i + 1) (by omega)]
  refine ev_neg (by decide) (ev_pos h2 (ev_pos h3 (ev_bind (rtakes_ev ⟨by omega, by omega⟩) (ev_pos (by omega) (ev_bindc rfl (ev_pos (by simp only [List.length_nil, List.length_take]; omega) (ev_bindc rfl (ev_bindc rfl (ev_pos (by simp only [List.length_nil, List.length_take, List.length_append, List.length_cons]; omega) (ev_bindc rfl ?_))))))))))
  rw [w64 (n := (rd_T35 l i).f0 + tk (rd_T35 l i).f1 need) (by omega), w64 (n := (rd_T35 l i).f1 - tk (rd_T35 l i).f1 need) (by omega)]
  have e1 : (i + 1).toNat = i.toNat + 1 := by omega
  refine ev_ite (fun c => ?_) (fun c => ?_)
  · refine ev_bindc rfl (ev_pos (by simp only [List.length_nil, List.length_take, List.length_append, List.length_cons]; omega) (ev_bindc rfl (ev_pos (by omega) (ev_pos (by omega) (ev_bindc rfl (ev_pos (by simp only [List.length_nil, List.length_take, List.length_drop, List.length_append, List.length_cons]; omega) (ev_now ?_)))))))
    unfold crv tkn
    rw [if_pos c, e1]
    simp
  · refine ev_pos (by omega) (ev_pos (by omega) (ev_bindc rfl (ev_pos (by simp only [List.length_nil, List.length_take, List.length_drop, List.length_append, List.length_cons]; omega) (ev_now ?_))))
    unfold crv tkn
    rw [if_neg c, e1]
    simp
theorem redits_l0 (l : List S35) (i t : Int) (b : S35) (hb : rd_T35 l i = b) (h0 : 0 ≤ i) (h1 : i < l.length) (hr : 0 ≤ b.f0 ∧ b.f0 ≤ 1000 ∧ t ≤ 1000 ∧ 2 ≤ b.f1 ∧ b.f1 ≤ 512 ∧ 2 ≤ t) (d : Nat) : ∀ (acc : List S30) (k : Int), 0 ≤ k → k + d = t → acc.length + d ≤ 100000 →
    Ev (fun j => darningref4_CarveEdits.l0 j l i t acc k) (acc ++ noughts b.f0 k d ++ (if t < b.f1 then [⟨b.f0 + t, hWord (b.f1 - t) false⟩] else [])) := by
  induction d with
  | zero =>
    intro acc k hk hd hl
    refine Ev.step (fun j => by rw [darningref4_CarveEdits.l0]) ?_
    rw [hb, w64 (n := b.f0 + t) (by omega), w64 (n := b.f1 - t) (by omega)]
    refine ev_neg (by omega) (ev_pos h0 (ev_pos h1 (ev_ite (fun c => ?_) (fun c => ?_))))
    · have e1 : darningref4_Word.f (b.f1 - t) false = some (hWord (b.f1 - t) false) := by
        have : darningref4_Word.f (b.f1 - t) false = block_Word.f (b.f1 - t) false := rfl
        rw [this]; exact word_eq _ _
      refine ev_bindc e1 (ev_pos (by omega) (ev_now ?_))
      rw [if_pos c]
      show acc ++ _ = acc ++ [] ++ _
      simp
    · rw [if_neg c]
      refine ev_now ?_
      show acc = acc ++ [] ++ []
      simp
  | succ d ih =>
    intro acc k hk hd hl
    have hi := ih (acc ++ [⟨b.f0 + k, 0⟩]) (k + 1) (by omega) (by omega) (by simp; omega)
    refine Ev.step (fun j => by rw [darningref4_CarveEdits.l0]) ?_
    rw [hb, w64 (n := b.f0 + k) (by omega), w64 (n := k + 1) (by omega)]
    refine ev_pos (by omega) (ev_pos h0 (ev_pos h1 (ev_pos (by omega) ?_)))
    have e : acc ++ noughts b.f0 k (d + 1) = acc ++ [⟨b.f0 + k, 0⟩] ++ noughts b.f0 (k + 1) d := by
      show acc ++ (⟨b.f0 + k, 0⟩ :: noughts b.f0 (k + 1) d) = _
      simp
    rw [e]
    exact hi
theorem redits_yes {l : List S35} {i need : Int} (hl : l.length ≤ 1000) (h : CanC l i need) : Ev (fun k => darningref4_CarveEdits.f k l i need) (eds (rd_T35 l i) need) := by
  have hr := isb_rd h.1 h.2.1 h.2.2.1
  have ht := tk_r h.2.2.2.2 hr.2.1
  unfold darningref4_CarveEdits.f
  have e1 : darningref4_Word.f (tk (rd_T35 l i).f1 need) true = some (hWord (tk (rd_T35 l i).f1 need) true) := by
    have : darningref4_Word.f (tk (rd_T35 l i).f1 need) true = block_Word.f (tk (rd_T35 l i).f1 need) true := rfl
    rw [this]; exact word_eq _ _
  refine ev_bind (rcarved_yes hl h) (ev_pos rfl (ev_pos h.2.1 (ev_pos h.2.2.1 (ev_bind (rtakes_ev ⟨by omega, by omega⟩) (ev_bindc e1 ?_)))))
  have := redits_l0 l i (tk (rd_T35 l i).f1 need) (rd_T35 l i) rfl h.2.1 h.2.2.1 ⟨by omega, by omega, by omega, by omega, by omega, by omega⟩ (tk (rd_T35 l i).f1 need - 1).toNat [⟨(rd_T35 l i).f0, hWord (tk (rd_T35 l i).f1 need) true⟩] 1 (by omega) (by omega) (by simp; omega)
  unfold eds
  simpa using this
theorem samee {l : List S30} (hlen : l.length ≤ 100000) : Ev (fun k => darningref4_SameEdits.f k l l) true := by
  unfold darningref4_SameEdits.f
  refine ev_pos rfl ?_
  have go : ∀ (d : Nat) (j : Int), 0 ≤ j → j + d = l.length → Ev (fun k => darningref4_SameEdits.l0 k l l (l.length : Int) j) true := by
    intro d
    induction d with
    | zero =>
      intro j h0 h1
      exact Ev.step (fun k => by rw [darningref4_SameEdits.l0]) (ev_neg (by omega) (Ev.now _))
    | succ d ih =>
      intro j h0 h1
      refine Ev.step (fun k => by rw [darningref4_SameEdits.l0]) ?_
      rw [w64 (n := j + 1) (by omega)]
      exact ev_pos (by omega) (ev_pos h0 (ev_pos (by omega) (ev_pos (by omega) (ev_neg (by simp) (ih (j + 1) (by omega) (by omega))))))
  exact go l.length 0 (Int.le_refl _) (by omega)
theorem can_of {l : List S35} {i words : Int} (h : MayB l words) (hi : 0 ≤ i ∧ i < l.length) (hu : (rd_T35 l i).f2 = true) : Can l i := by
  refine ⟨?_, hi.1, hi.2, hu⟩
  unfold IsB
  rw [← isb_of h]
  exact h
theorem canc_of {l : List S35} {i need words : Int} (hC : MayB l words) (h0 : 0 ≤ i) (h1 : i < l.length) (hn : 2 ≤ need) : CanC l i need ↔ ((rd_T35 l i).f2 = false ∧ need ≤ (rd_T35 l i).f1) := by
  have hB : IsB l := by unfold IsB; rw [← isb_of hC]; exact hC
  have hr := isb_rd hB h0 h1
  have hz := tk_zero (s := (rd_T35 l i).f1) (n := need) hr.2.1
  constructor
  · rintro ⟨_, _, _, h4, h5⟩
    refine ⟨h4, ?_⟩
    by_cases c : need ≤ (rd_T35 l i).f1
    · exact c
    · exact absurd (hz.2 (by omega)) h5
  · rintro ⟨h4, h5⟩
    exact ⟨hB, h0, h1, h4, fun e => by have := hz.1 e; omega⟩
def Wf (l : List S35) : Prop := l.length ≤ 1000 ∧ ∀ j : Int, -9223372036854775808 ≤ (rd_T35 l j).f0 ∧ (rd_T35 l j).f0 ≤ 9223372036854775807 ∧ -9223372036854775808 ≤ (rd_T35 l j).f1 ∧ (rd_T35 l j).f1 ≤ 9223372036854775807
def OkB (l : List S35) (need j : Int) : Prop := (rd_T35 l j).f2 = false ∧ need ≤ (rd_T35 l j).f1
structure FitsP (l : List S35) (need i : Int) (out : List Int) : Prop where
  ok : ∀ x ∈ out, 0 ≤ x ∧ x < i ∧ OkB l need x ∧ ∀ j : Int, 0 ≤ j → j < i → OkB l need j → (rd_T35 l x).f1 ≤ (rd_T35 l j).f1
  all : ∀ x : Int, 0 ≤ x → x < i → OkB l need x → (∀ j : Int, 0 ≤ j → j < i → OkB l need j → (rd_T35 l x).f1 ≤ (rd_T35 l j).f1) → x ∈ out
  none : out = [] → ∀ j : Int, 0 ≤ j → j < i → ¬ OkB l need j
  len : (out.length : Int) ≤ i
  up : out.Pairwise (· < ·)
theorem FitsP.zero (l : List S35) (need : Int) : FitsP l need 0 [] :=
  ⟨fun x h => absurd h (by simp), fun x h0 h1 => by omega, fun _ j h0 h1 => by omega, by simp, List.Pairwise.nil⟩
theorem FitsP.skip {l : List S35} {need i : Int} {out : List Int} (h : FitsP l need i out) (hn : ¬ OkB l need i) : FitsP l need (i + 1) out := by
  have hj : ∀ j : Int, j < i + 1 → OkB l need j → j < i := fun j h1 h2 => by
    by_cases e : j = i
    · subst e; exact absurd h2 hn
    · omega
  refine ⟨fun x hx => ?_, fun x h0 h1 h2 h3 => ?_, fun h0 j h1 h2 h3 => ?_, by have := h.len; omega, h.up⟩
  · obtain ⟨a, b, c, d⟩ := h.ok x hx
    exact ⟨a, by omega, c, fun j h0 h1 h2 => d j h0 (hj j h1 h2) h2⟩
  · exact h.all x h0 (hj x h1 h2) h2 (fun j h4 h5 h6 => h3 j h4 (by omega) h6)
  · exact h.none h0 j h1 (hj j h2 h3) h3
theorem FitsP.first {l : List S35} {need i : Int} (hi : 0 ≤ i) (h : FitsP l need i []) (ho : OkB l need i) : FitsP l need (i + 1) [i] := by
  have hj : ∀ j : Int, 0 ≤ j → j < i + 1 → OkB l need j → j = i := fun j h0 h1 h2 => by
    by_cases e : j = i
    · exact e
    · exact absurd h2 (h.none rfl j h0 (by omega))
  refine ⟨fun x hx => ?_, fun x h0 h1 h2 h3 => ?_, fun h0 => by simp at h0, by simp; omega, by simp⟩
  · have hx := List.mem_singleton.1 hx
    subst hx
    exact ⟨hi, by omega, ho, fun j h0 h1 h2 => by rw [hj j h0 h1 h2]; exact Int.le_refl _⟩
  · rw [hj x h0 h1 h2]; simp
theorem FitsP.head {l : List S35} {need i : Int} {a : Int} {out : List Int} (h : FitsP l need i (a :: out)) : 0 ≤ a ∧ a < i ∧ OkB l need a ∧ ∀ x ∈ a :: out, (rd_T35 l x).f1 = (rd_T35 l a).f1 := by
  obtain ⟨h0, h1, h2, h3⟩ := h.ok a (by simp)
  refine ⟨h0, h1, h2, fun x hx => ?_⟩
  obtain ⟨g0, g1, g2, g3⟩ := h.ok x hx
  have := h3 x g0 g1 g2
  have := g3 a h0 h1 h2
  omega
theorem FitsP.less {l : List S35} {need i : Int} {a : Int} {out : List Int} (h : FitsP l need i (a :: out)) (ho : OkB l need i) (hs : (rd_T35 l i).f1 < (rd_T35 l a).f1) : FitsP l need (i + 1) [i] := by
  obtain ⟨h0, h1, h2, h3⟩ := h.ok a (by simp)
  refine ⟨fun x hx => ?_, fun x g0 g1 g2 g3 => ?_, fun h0 => by simp at h0, by simp; omega, by simp⟩
  · have hx := List.mem_singleton.1 hx
    subst hx
    refine ⟨by omega, by omega, ho, fun j g0 g1 g2 => ?_⟩
    by_cases e : j = x
    · subst e; exact Int.le_refl _
    · have := h3 j g0 (by omega) g2; omega
  · by_cases e : x = i
    · subst e; simp
    · exfalso
      have := h3 x g0 (by omega) g2
      have := g3 i (by omega) (by omega) ho
      omega
theorem FitsP.same {l : List S35} {need i : Int} {a : Int} {out : List Int} (h : FitsP l need i (a :: out)) (ho : OkB l need i) (hs : (rd_T35 l i).f1 = (rd_T35 l a).f1) : FitsP l need (i + 1) ((a :: out) ++ [i]) := by
  obtain ⟨h0, h1, h2, h3⟩ := h.ok a (by simp)
  have hh := h.head.2.2.2
  refine ⟨fun x hx => ?_, fun x g0 g1 g2 g3 => ?_, fun h0 => by simp at h0, by have := h.len; simp at this ⊢; omega, ?_⟩
  · have key : ∀ j : Int, 0 ≤ j → j < i + 1 → OkB l need j → (rd_T35 l a).f1 ≤ (rd_T35 l j).f1 := fun j g0 g1 g2 => by
      by_cases e : j = i
      · subst e; omega
      · exact h3 j g0 (by omega) g2
    rcases List.mem_append.1 hx with hx | hx
    · obtain ⟨k0, k1, k2, _⟩ := h.ok x hx
      exact ⟨k0, by omega, k2, fun j g0 g1 g2 => by rw [hh x hx]; exact key j g0 g1 g2⟩
    · have hx := List.mem_singleton.1 hx
      subst hx
      exact ⟨by omega, by omega, ho, fun j g0 g1 g2 => by rw [hs]; exact key j g0 g1 g2⟩
  · by_cases e : x = i
    · subst e; simp
    · exact List.mem_append_left _ (h.all x g0 (by omega) g2 (fun j k0 k1 k2 => g3 j k0 (by omega) k2))
  · refine List.pairwise_append.2 ⟨h.up, by simp, fun x hx y hy => ?_⟩
    have hy := List.mem_singleton.1 hy
    subst hy
    exact (h.ok x hx).2.1
theorem FitsP.more {l : List S35} {need i : Int} {a : Int} {out : List Int} (h : FitsP l need i (a :: out)) (hs : (rd_T35 l a).f1 < (rd_T35 l i).f1) : FitsP l need (i + 1) (a :: out) := by
  obtain ⟨h0, h1, h2, h3⟩ := h.ok a (by simp)
  have hh := h.head.2.2.2
  refine ⟨fun x hx => ?_, fun x g0 g1 g2 g3 => ?_, fun h0 => by simp at h0, by have := h.len; omega, h.up⟩
  · obtain ⟨k0, k1, k2, k3⟩ := h.ok x hx
    refine ⟨k0, by omega, k2, fun j g0 g1 g2 => ?_⟩
    by_cases e : j = i
    · subst e; have := hh x hx; omega
    · exact k3 j g0 (by omega) g2
  · by_cases e : x = i
    · subst e
      have := g3 a h0 (by omega) h2
      omega
    · exact h.all x g0 (by omega) g2 (fun j k0 k1 k2 => g3 j k0 (by omega) k2)
theorem rd_head (a : Int) (out : List Int) : rd (a :: out) 0 = a := rfl
theorem fits_l0 {l : List S35} {need : Int} (hl : Wf l) (hn : 2 ≤ need) (d : Nat) : ∀ (i : Int) (out : List Int), 0 ≤ i → i + d = l.length → FitsP l need i out →
    ∃ r, Ev (fun k => fit_Fits.l0 k l need out l (l.length : Int) i) r ∧ FitsP l need l.length r := by
  have hlen := hl.1
  induction d with
  | zero =>
    intro i out h0 hd h
    have e : i = (l.length : Int) := by omega
    subst e
    exact ⟨out, Ev.step (fun k => by rw [fit_Fits.l0]) (ev_neg (by omega) (Ev.now _)), h⟩
  | succ d ih =>
    intro i out h0 hd h
    have hlt : i < (l.length : Int) := by omega
    have hol := h.len
    have J5 : ∀ (o : List Int) r, Ev (fun k => fit_Fits.l0 k l need o l (l.length : Int) (i + 1)) r → Ev (fun k => fit_Fits.j5 k l need o l (l.length : Int) i) r := fun o r hr => by
      refine Ev.step (fun k => by rw [fit_Fits.j5]) ?_
      rw [w64 (n := i + 1) (by omega)]
      exact hr
    have J4 : ∀ (o : List Int) r, o.length ≤ 1000 → Ev (fun k => fit_Fits.l0 k l need (o ++ [i]) l (l.length : Int) (i + 1)) r → Ev (fun k => fit_Fits.j4 k l need o i l (l.length : Int) i true) r := fun o r ho hr =>
      Ev.step (fun k => by rw [fit_Fits.j4]) (ev_pos rfl (ev_pos (by omega) (J5 _ _ hr)))
    by_cases ho : OkB l need i
    · have enter : ∀ r, Ev (fun k => fit_Fits.j1 k l need out i l (l.length : Int) i false ((rd_T35 l i).f0) ((rd_T35 l i).f1) ((rd_T35 l i).f2)) r → Ev (fun k => fit_Fits.l0 k l need out l (l.length : Int) i) r := by
        intro r hr
        refine Ev.step (fun k => by rw [fit_Fits.l0]) ?_
        refine ev_pos hlt (ev_pos h0 (ev_pos hlt (ev_neg (by omega) (ev_neg (by rw [ho.1]; decide) ?_))))
        rw [decide_eq_false (by have := ho.2; omega)]
        exact hr
      have nil3 : ∀ r, Ev (fun k => fit_Fits.l0 k l need [i] l (l.length : Int) (i + 1)) r → Ev (fun k => fit_Fits.j3 k l need ([] : List Int) i l (l.length : Int) i ((rd_T35 l i).f0) ((rd_T35 l i).f1) ((rd_T35 l i).f2)) r := by
        intro r hr
        refine Ev.step (fun k => by rw [fit_Fits.j3]) ?_
        exact ev_pos rfl (J4 [] r (by simp) hr)
      cases out with
      | nil =>
        obtain ⟨r, hr, hp⟩ := ih (i + 1) [i] (by omega) (by omega) (h.first h0 ho)
        refine ⟨r, enter r ?_, hp⟩
        refine Ev.step (fun k => by rw [fit_Fits.j1]) (ev_neg (by decide) (ev_neg (by decide) ?_))
        exact Ev.step (fun k => by rw [fit_Fits.j2]) (ev_neg (by decide) (nil3 r hr))
      | cons a out =>
        obtain ⟨a0, a1, a2, a3⟩ := h.head
        have go : ∀ r (b : Bool), b = decide ((rd_T35 l i).f1 < (rd_T35 l a).f1) → Ev (fun k => fit_Fits.j2 k l need (a :: out) i l (l.length : Int) i b ((rd_T35 l i).f0) ((rd_T35 l i).f1) ((rd_T35 l i).f2)) r →
            Ev (fun k => fit_Fits.j1 k l need (a :: out) i l (l.length : Int) i false ((rd_T35 l i).f0) ((rd_T35 l i).f1) ((rd_T35 l i).f2)) r := by
          intro r b hb hr
          refine Ev.step (fun k => by rw [fit_Fits.j1]) (ev_neg (by decide) (ev_pos (by simp) (ev_pos (by simp) ?_)))
          rw [rd_head]
          refine ev_pos a0 (ev_pos (by omega) ?_)
          rw [← hb]
          exact hr
        have go3 : ∀ r (b : Bool), b = ((rd_T35 l i).f1 == (rd_T35 l a).f1) → Ev (fun k => fit_Fits.j4 k l need (a :: out) i l (l.length : Int) i b) r →
            Ev (fun k => fit_Fits.j2 k l need (a :: out) i l (l.length : Int) i false ((rd_T35 l i).f0) ((rd_T35 l i).f1) ((rd_T35 l i).f2)) r := by
          intro r b hb hr
          refine Ev.step (fun k => by rw [fit_Fits.j2]) (ev_neg (by decide) ?_)
          refine Ev.step (fun k => by rw [fit_Fits.j3]) (ev_neg (by simp; omega) (ev_pos (by simp) ?_))
          rw [rd_head]
          refine ev_pos a0 (ev_pos (by omega) ?_)
          rw [← hb]
          exact hr
        by_cases c1 : (rd_T35 l i).f1 < (rd_T35 l a).f1
        · obtain ⟨r, hr, hp⟩ := ih (i + 1) [i] (by omega) (by omega) (h.less ho c1)
          refine ⟨r, enter r (go r true (by rw [decide_eq_true c1]) ?_), hp⟩
          exact Ev.step (fun k => by rw [fit_Fits.j2]) (ev_pos rfl (nil3 r hr))
        · by_cases c2 : (rd_T35 l i).f1 = (rd_T35 l a).f1
          · obtain ⟨r, hr, hp⟩ := ih (i + 1) ((a :: out) ++ [i]) (by omega) (by omega) (h.same ho c2)
            exact ⟨r, enter r (go r false (by rw [decide_eq_false c1]) (go3 r true (beq_iff_eq.2 c2).symm (J4 _ r (by omega) hr))), hp⟩
          · obtain ⟨r, hr, hp⟩ := ih (i + 1) (a :: out) (by omega) (by omega) (h.more (by omega))
            exact ⟨r, enter r (go r false (by rw [decide_eq_false c1]) (go3 r false (beq_eq_false_iff_ne.2 c2).symm (Ev.step (fun k => by rw [fit_Fits.j4]) (ev_neg (by decide) (J5 _ _ hr))))), hp⟩
    · obtain ⟨r, hr, hp⟩ := ih (i + 1) out (by omega) (by omega) (h.skip ho)
      refine ⟨r, Ev.step (fun k => by rw [fit_Fits.l0]) ?_, hp⟩
      have j1 : Ev (fun k => fit_Fits.j1 k l need out i l (l.length : Int) i true ((rd_T35 l i).f0) ((rd_T35 l i).f1) ((rd_T35 l i).f2)) r :=
        Ev.step (fun k => by rw [fit_Fits.j1]) (ev_pos rfl (J5 _ _ hr))
      refine ev_pos hlt (ev_pos h0 (ev_pos hlt (ev_neg (by omega) ?_)))
      refine ev_ite (fun _ => j1) (fun c => ?_)
      rw [decide_eq_true (show (rd_T35 l i).f1 < need from by
        have : ¬ (need ≤ (rd_T35 l i).f1) := fun hh => ho ⟨by simpa using c, hh⟩
        omega)]
      exact j1
theorem fits_ev {l : List S35} {need : Int} (hl : Wf l) (hn : 2 ≤ need) : ∃ r, Ev (fun k => fit_Fits.f k l need) r ∧ FitsP l need l.length r :=
  fits_l0 hl hn l.length 0 [] (by omega) (by omega) (FitsP.zero l need)
def cntS (at_ : Int) (counts : List Int) : Int := if at_ < 0 ∨ (counts.length : Int) ≤ at_ / 32 then 0 else rd counts (at_ / 32)
theorem count_eq {a b : Int} {c : Bool} {counts : List Int} (h1 : a ≤ 9223372036854775807) : fit_count.f a b c counts = some (cntS a counts) := by
  unfold fit_count.f cntS
  by_cases h : a < 0
  · rw [if_pos h, if_pos (Or.inl h)]
  · rw [if_neg h, tdivp (by omega), w64 (n := a / 32) (by omega)]
    by_cases h2 : a / 32 ≥ (counts.length : Int)
    · rw [if_pos h2, if_pos (Or.inr h2)]
    · rw [if_neg h2, if_pos (by omega), if_pos (by omega), if_neg (by omega)]
def Leq (l : List S35) (counts : List Int) (x y : Int) : Prop :=
  cntS (rd_T35 l x).f0 counts < cntS (rd_T35 l y).f0 counts ∨ (cntS (rd_T35 l x).f0 counts = cntS (rd_T35 l y).f0 counts ∧ (rd_T35 l x).f0 ≤ (rd_T35 l y).f0)
def ChooseP (l : List S35) (counts out : List Int) (c : Int) : Prop := (out = [] ∧ c = -1) ∨ (c ∈ out ∧ ∀ y ∈ out, Leq l counts c y)
theorem rd_mid (pre suf : List Int) (x : Int) : rd (pre ++ x :: suf) (pre.length : Int) = x := by
  unfold rd
  rw [List.getD_eq_getElem?_getD, Int.toNat_natCast, List.getElem?_append_right (by omega)]
  simp
theorem choose_l0 {l : List S35} {counts : List Int} (hl : Wf l) (suf : List Int) : ∀ (pre : List Int) (best : Int), (∀ x ∈ pre ++ suf, 0 ≤ x ∧ x < l.length) → (pre ++ suf).length ≤ 1000 → ChooseP l counts pre best →
    ∃ r, Ev (fun k => fit_Choose.l0 k l counts best (pre ++ suf) ((pre ++ suf).length : Int) (pre.length : Int)) r ∧ ChooseP l counts (pre ++ suf) r := by
  induction suf with
  | nil =>
    intro pre best hr hlen h
    refine ⟨best, Ev.step (fun k => by rw [fit_Choose.l0]) (ev_neg (by simp) (Ev.now _)), by simpa using h⟩
  | cons x suf ih =>
    intro pre best hr hlen h
    have hx := hr x (by simp)
    have e : pre ++ x :: suf = (pre ++ [x]) ++ suf := by simp
    have hlen2 : ((pre ++ [x]).length : Int) = (pre.length : Int) + 1 := by simp
    have hlt : (pre.length : Int) < ((pre ++ x :: suf).length : Int) := by simp; omega
    have next : ∀ b, ChooseP l counts (pre ++ [x]) b → ∃ r, Ev (fun k => fit_Choose.j2 k l counts b (pre ++ x :: suf) ((pre ++ x :: suf).length : Int) (pre.length : Int)) r ∧ ChooseP l counts (pre ++ x :: suf) r := by
      intro b hb
      have := ih (pre ++ [x]) b (by rw [← e]; exact hr) (by rw [← e]; exact hlen) hb
      rw [hlen2, ← e] at this
      obtain ⟨r, h1, h2⟩ := this
      refine ⟨r, Ev.step (fun k => by rw [fit_Choose.j2]) ?_, h2⟩
      rw [w64 (by simp at hlen; omega)]
      exact h1
    have J1t : ∀ {r b}, Ev (fun k => fit_Choose.j2 k l counts x (pre ++ x :: suf) ((pre ++ x :: suf).length : Int) (pre.length : Int)) r → Ev (fun k => fit_Choose.j1 k l counts b x (pre ++ x :: suf) ((pre ++ x :: suf).length : Int) (pre.length : Int) true) r :=
      fun h => Ev.step (fun k => by rw [fit_Choose.j1]) (ev_pos rfl h)
    have J1f : ∀ {r b}, Ev (fun k => fit_Choose.j2 k l counts b (pre ++ x :: suf) ((pre ++ x :: suf).length : Int) (pre.length : Int)) r → Ev (fun k => fit_Choose.j1 k l counts b x (pre ++ x :: suf) ((pre ++ x :: suf).length : Int) (pre.length : Int) false) r :=
      fun h => Ev.step (fun k => by rw [fit_Choose.j1]) (ev_neg (by decide) h)
    rcases h with ⟨rfl, rfl⟩ | ⟨hm, hall⟩
    · obtain ⟨r, h1, h2⟩ := next x (Or.inr ⟨by simp, fun y hy => by simp at hy; subst hy; exact Or.inr ⟨rfl, Int.le_refl _⟩⟩)
      refine ⟨r, Ev.step (fun k => by rw [fit_Choose.l0]) ?_, h2⟩
      rw [rd_mid]
      exact ev_pos hlt (ev_pos (by omega) (ev_pos hlt (ev_pos (by omega) h1)))
    · have hb := hr best (by simp [hm])
      have fx := hl.2 x
      have fb := hl.2 best
      have cx := count_eq (b := (rd_T35 l x).f1) (c := (rd_T35 l x).f2) (counts := counts) fx.2.1
      have cb := count_eq (b := (rd_T35 l best).f1) (c := (rd_T35 l best).f2) (counts := counts) fb.2.1
      by_cases c1 : cntS (rd_T35 l x).f0 counts < cntS (rd_T35 l best).f0 counts ∨ (cntS (rd_T35 l x).f0 counts = cntS (rd_T35 l best).f0 counts ∧ (rd_T35 l x).f0 < (rd_T35 l best).f0)
      · obtain ⟨r, h1, h2⟩ := next x (Or.inr ⟨by simp, fun y hy => by
          rcases List.mem_append.1 hy with hy | hy
          · have := hall y hy
            unfold Leq at this ⊢
            omega
          · simp at hy; subst hy; exact Or.inr ⟨rfl, Int.le_refl _⟩⟩)
        refine ⟨r, Ev.step (fun k => by rw [fit_Choose.l0]) ?_, h2⟩
        rw [rd_mid]
        refine ev_pos hlt (ev_pos (by omega) (ev_pos hlt (ev_neg (by omega) (ev_pos hx.1 (ev_pos hx.2 (ev_bindc cx (ev_pos hb.1 (ev_pos hb.2 (ev_bindc cb ?_)))))))))
        rcases c1 with c1 | c1
        · exact ev_pos c1 (J1t h1)
        · refine ev_neg (by omega) ((ev_pos c1.1 ?_))
          rw [decide_eq_true c1.2]
          exact J1t h1
      · obtain ⟨r, h1, h2⟩ := next best (Or.inr ⟨by simp [hm], fun y hy => by
          rcases List.mem_append.1 hy with hy | hy
          · exact hall y hy
          · simp at hy; subst hy; unfold Leq; omega⟩)
        refine ⟨r, Ev.step (fun k => by rw [fit_Choose.l0]) ?_, h2⟩
        rw [rd_mid]
        refine ev_pos hlt (ev_pos (by omega) (ev_pos hlt (ev_neg (by omega) (ev_pos hx.1 (ev_pos hx.2 (ev_bindc cx (ev_pos hb.1 (ev_pos hb.2 (ev_bindc cb ?_)))))))))
        refine ev_neg (by omega) (?_)
        refine ev_ite (fun c2 => ?_) (fun _ => J1f h1)
        rw [decide_eq_false (by omega)]
        exact J1f h1
theorem chosen {l : List S35} {need : Int} {counts out : List Int} {c : Int} (hf : FitsP l need l.length out) (hc : ChooseP l counts out c) :
    (c = -1 ∧ out = [] ∧ ∀ j : Int, 0 ≤ j → j < l.length → ¬ OkB l need j) ∨
    (0 ≤ c ∧ c < l.length ∧ OkB l need c ∧ c ∈ out ∧ (∀ y ∈ out, Leq l counts c y) ∧ ∀ j : Int, 0 ≤ j → j < l.length → OkB l need j → (rd_T35 l c).f1 ≤ (rd_T35 l j).f1) := by
  rcases hc with ⟨h1, h2⟩ | ⟨h1, h2⟩
  · exact Or.inl ⟨h2, h1, hf.none h1⟩
  · obtain ⟨a, b, c, d⟩ := hf.ok _ h1
    exact Or.inr ⟨a, b, c, h1, h2, d⟩
theorem rcount_eq {a : Int} {counts : List Int} (h1 : a ≤ 9223372036854775807) : darningref4_countAt.f a counts = some (cntS a counts) := by
  have : darningref4_countAt.f a counts = fit_count.f a 0 false counts := rfl
  rw [this]
  exact count_eq h1
theorem rfits_eq {need : Int} (hn : 2 ≤ need) : ∀ k, (∀ l o m n i, darningref4_Fits.l0 k l need o m n i = fit_Fits.l0 k l need o m n i) ∧ (∀ l o m n i, darningref4_Fits.j5 k l need o m n i = fit_Fits.j5 k l need o m n i) ∧
    (∀ l o x m n i b, darningref4_Fits.j4 k l need o x m n i b = fit_Fits.j4 k l need o x m n i b) ∧ (∀ l o x m n i a b c, darningref4_Fits.j3 k l need o x m n i a b c = fit_Fits.j3 k l need o x m n i a b c) ∧
    (∀ l o x m n i e a b c, darningref4_Fits.j2 k l need o x m n i e a b c = fit_Fits.j2 k l need o x m n i e a b c) ∧ (∀ l o x m n i e a b c, darningref4_Fits.j1 k l need o x m n i e a b c = fit_Fits.j1 k l need o x m n i e a b c) := by
  intro k
  induction k with
  | zero => exact ⟨fun _ _ _ _ _ => rfl, fun _ _ _ _ _ => rfl, fun _ _ _ _ _ _ _ => rfl, fun _ _ _ _ _ _ _ _ _ => rfl, fun _ _ _ _ _ _ _ _ _ _ => rfl, fun _ _ _ _ _ _ _ _ _ _ => rfl⟩
  | succ k ih =>
    obtain ⟨h0, h5, h4, h3, h2, h1⟩ := ih
    refine ⟨fun l o m n i => ?_, fun l o m n i => ?_, fun l o x m n i b => ?_, fun l o x m n i a b c => ?_, fun l o x m n i e a b c => ?_, fun l o x m n i e a b c => ?_⟩
    · rw [darningref4_Fits.l0, fit_Fits.l0, if_neg (show ¬ need < 2 by omega), h1, h1]
    · rw [darningref4_Fits.j5, fit_Fits.j5, h0]
    · rw [darningref4_Fits.j4, fit_Fits.j4, h5, h5]
    · rw [darningref4_Fits.j3, fit_Fits.j3, h4, h4, BEq.comm]
    · rw [darningref4_Fits.j2, fit_Fits.j2, h3, h3]
    · rw [darningref4_Fits.j1, fit_Fits.j1, h5, h2, h2]
theorem rchoose_l0 {l : List S35} {counts : List Int} (hl : Wf l) (suf : List Int) : ∀ (pre : List Int) (best : Int), (∀ x ∈ pre ++ suf, 0 ≤ x ∧ x < l.length) → (pre ++ suf).length ≤ 1000 → ChooseP l counts pre best →
    ∃ r, Ev (fun k => darningref4_Choose.l0 k l counts best (pre ++ suf) ((pre ++ suf).length : Int) (pre.length : Int)) r ∧ ChooseP l counts (pre ++ suf) r := by
  induction suf with
  | nil =>
    intro pre best hr hlen h
    refine ⟨best, Ev.step (fun k => by rw [darningref4_Choose.l0]) (ev_neg (by simp) (Ev.now _)), by simpa using h⟩
  | cons x suf ih =>
    intro pre best hr hlen h
    have hx := hr x (by simp)
    have e : pre ++ x :: suf = (pre ++ [x]) ++ suf := by simp
    have hlen2 : ((pre ++ [x]).length : Int) = (pre.length : Int) + 1 := by simp
    have hlt : (pre.length : Int) < ((pre ++ x :: suf).length : Int) := by simp; omega
    have next : ∀ b, ChooseP l counts (pre ++ [x]) b → ∃ r, Ev (fun k => darningref4_Choose.j2 k l counts b (pre ++ x :: suf) ((pre ++ x :: suf).length : Int) (pre.length : Int)) r ∧ ChooseP l counts (pre ++ x :: suf) r := by
      intro b hb
      have := ih (pre ++ [x]) b (by rw [← e]; exact hr) (by rw [← e]; exact hlen) hb
      rw [hlen2, ← e] at this
      obtain ⟨r, h1, h2⟩ := this
      refine ⟨r, Ev.step (fun k => by rw [darningref4_Choose.j2]) ?_, h2⟩
      rw [w64 (by simp at hlen; omega)]
      exact h1
    have J1t : ∀ {r b}, Ev (fun k => darningref4_Choose.j2 k l counts x (pre ++ x :: suf) ((pre ++ x :: suf).length : Int) (pre.length : Int)) r → Ev (fun k => darningref4_Choose.j1 k l counts b x (pre ++ x :: suf) ((pre ++ x :: suf).length : Int) (pre.length : Int) true) r :=
      fun h => Ev.step (fun k => by rw [darningref4_Choose.j1]) (ev_pos rfl h)
    have J1f : ∀ {r b}, Ev (fun k => darningref4_Choose.j2 k l counts b (pre ++ x :: suf) ((pre ++ x :: suf).length : Int) (pre.length : Int)) r → Ev (fun k => darningref4_Choose.j1 k l counts b x (pre ++ x :: suf) ((pre ++ x :: suf).length : Int) (pre.length : Int) false) r :=
      fun h => Ev.step (fun k => by rw [darningref4_Choose.j1]) (ev_neg (by decide) h)
    rcases h with ⟨rfl, rfl⟩ | ⟨hm, hall⟩
    · obtain ⟨r, h1, h2⟩ := next x (Or.inr ⟨by simp, fun y hy => by simp at hy; subst hy; exact Or.inr ⟨rfl, Int.le_refl _⟩⟩)
      refine ⟨r, Ev.step (fun k => by rw [darningref4_Choose.l0]) ?_, h2⟩
      rw [rd_mid]
      exact ev_pos hlt (ev_pos (by omega) (ev_pos hlt (ev_pos (by omega) (J1t h1))))
    · have hb := hr best (by simp [hm])
      have fx := hl.2 x
      have fb := hl.2 best
      have cx := rcount_eq (counts := counts) fx.2.1
      have cb := rcount_eq (counts := counts) fb.2.1
      by_cases c1 : cntS (rd_T35 l x).f0 counts < cntS (rd_T35 l best).f0 counts ∨ (cntS (rd_T35 l x).f0 counts = cntS (rd_T35 l best).f0 counts ∧ (rd_T35 l x).f0 < (rd_T35 l best).f0)
      · obtain ⟨r, h1, h2⟩ := next x (Or.inr ⟨by simp, fun y hy => by
          rcases List.mem_append.1 hy with hy | hy
          · have := hall y hy
            unfold Leq at this ⊢
            omega
          · simp at hy; subst hy; exact Or.inr ⟨rfl, Int.le_refl _⟩⟩)
        refine ⟨r, Ev.step (fun k => by rw [darningref4_Choose.l0]) ?_, h2⟩
        rw [rd_mid]
        refine ev_pos hlt (ev_pos (by omega) (ev_pos hlt (ev_neg (by omega) (ev_pos hx.1 (ev_pos hx.2 (ev_bindc cx (ev_pos hb.1 (ev_pos hb.2 (ev_bindc cb ?_)))))))))
        rcases c1 with c1 | c1
        · exact ev_pos c1 (J1t h1)
        · refine ev_neg (by omega) (ev_bindc cx <| ev_bindc cb <| (ev_pos c1.1 ?_))
          rw [decide_eq_true c1.2]
          exact J1t h1
      · obtain ⟨r, h1, h2⟩ := next best (Or.inr ⟨by simp [hm], fun y hy => by
          rcases List.mem_append.1 hy with hy | hy
          · exact hall y hy
          · simp at hy; subst hy; unfold Leq; omega⟩)
        refine ⟨r, Ev.step (fun k => by rw [darningref4_Choose.l0]) ?_, h2⟩
        rw [rd_mid]
        refine ev_pos hlt (ev_pos (by omega) (ev_pos hlt (ev_neg (by omega) (ev_pos hx.1 (ev_pos hx.2 (ev_bindc cx (ev_pos hb.1 (ev_pos hb.2 (ev_bindc cb ?_)))))))))
        refine ev_neg (by omega) (ev_bindc cx <| ev_bindc cb <| ?_)
        refine ev_ite (fun c2 => ?_) (fun _ => J1f h1)
        rw [decide_eq_false (by omega)]
        exact J1f h1
theorem rchoose_ev {l : List S35} {need words : Int} {counts : List Int} (hC : MayB l words) (hl : Wf l) (hn : 2 ≤ need) : ∃ out r, Ev (fun k => fit_Fits.f k l need) out ∧ FitsP l need l.length out ∧ Ev (fun k => fit_Choose.f k l need counts) r ∧ Ev (fun k => darningref4_Choose.f k l need counts) r ∧ ChooseP l counts out r := by
  obtain ⟨out, h1, h2⟩ := fits_ev hl hn
  have hlen := hl.1
  have hx : ∀ x ∈ ([] : List Int) ++ out, 0 ≤ x ∧ x < (l.length : Int) := fun x hx => by
    have := h2.ok x (by simpa using hx); exact ⟨this.1, this.2.1⟩
  have hy : (([] : List Int) ++ out).length ≤ 1000 := by have := h2.len; simp; omega
  obtain ⟨r, h3, h4⟩ := choose_l0 (counts := counts) hl out [] (-1) hx hy (Or.inl ⟨rfl, rfl⟩)
  obtain ⟨s, h5, h6⟩ := rchoose_l0 (counts := counts) hl out [] (-1) hx hy (Or.inl ⟨rfl, rfl⟩)
  have e : r = s := by
    rcases h4 with ⟨a, b⟩ | ⟨a, b⟩
    · rcases h6 with ⟨c, d⟩ | ⟨c, d⟩
      · rw [b, d]
      · rw [a] at c; cases c
    · rcases h6 with ⟨c, d⟩ | ⟨c, d⟩
      · rw [c] at a; cases a
      · have p := b s c
        have q := d r a
        have hr := hx r a
        have hs := hx s c
        unfold Leq at p q
        by_cases e : r = s
        · exact e
        · exfalso
          have k1 := chain_rd hC.2 hr.1 hr.2
          have k2 := chain_rd hC.2 hs.1 hs.2
          by_cases lt : r < s
          · have := chain_lt hC.2 hr.1 lt hs.2; omega
          · have := chain_lt hC.2 hs.1 (show s < r by omega) hr.2; omega
  subst e
  refine ⟨out, r, h1, h2, ?_, ?_, h4⟩
  · unfold fit_Choose.f
    exact ev_bind h1 h3
  · unfold darningref4_Choose.f
    have h7 : Ev (fun k => darningref4_Fits.f k l need) out := by
      unfold darningref4_Fits.f
      refine ev_neg (by omega) ?_
      unfold fit_Fits.f at h1
      simp only [(rfits_eq hn _).1]
      exact h1
    exact ev_bind h7 h5
def HV (l : List S35) (v : List Int) (words : Int) : Prop := MayB l words ∧ Wds v ∧ (v.length : Int) = words ∧ ∀ b ∈ l, rd v b.f0 = headOf b
theorem hv_blocks {l : List S35} {v : List Int} {words : Int} (h : HV l v words) : Ev (fun k => chain_Blocks.f k v) (l, true) :=
  blocks_yes h.2.1 (parse_of (fr := false) (by rw [h.2.2.1]; exact h.1.2) h.2.2.2) (by rw [h.2.2.1]; exact h.1)
def needS (n : Int) : Int := if n < 1 ∨ n > 448 then 0 else (n + 7) / 8 + 1
theorem need_eq (n : Int) : fit_Need.f n = some (needS n) := by
  unfold fit_Need.f needS
  by_cases h1 : n < 1
  · rw [if_pos h1, if_pos (.inl h1)]
  · by_cases h2 : n > 448
    · rw [if_neg h1, if_pos h2, if_pos (.inr h2)]
    · rw [if_neg h1, if_neg h2, if_neg (by omega), w64 (n := n + 7) (by omega), tdivp (by omega), w64 (n := (n + 7) / 8) (by omega), w64 (by omega)]
theorem need_r (n : Int) : needS n = 0 ∨ (2 ≤ needS n ∧ needS n ≤ 57) := by
  unfold needS
  split
  · exact .inl rfl
  · right; omega
theorem offv_in {a : Int} (h : 0 ≤ a ∧ a ≤ 512) : offV a = (a + 1) * 8 := by
  unfold offV
  rw [if_neg (by omega), if_neg (by omega), w64 (n := a + 1) (by omega), w64 (by omega)]
theorem wf_may {l : List S35} {words : Int} (h : MayB l words) (hl : l.length ≤ 1000) : Wf l := by
  refine ⟨hl, fun j => ?_⟩
  have hw := h.1
  unfold MayW at hw
  have e : rd_T35 l j = rd_T35 l (j.toNat : Int) := by unfold rd_T35; rw [Int.toNat_natCast]
  rw [e]
  by_cases hj : j.toNat < l.length
  · have := chain_rd h.2 (j := (j.toNat : Int)) (by omega) (by omega)
    omega
  · unfold rd_T35
    rw [List.getD_eq_getElem?_getD, Int.toNat_natCast, List.getElem?_eq_none (by omega)]
    exact ⟨by decide, by decide, by decide, by decide⟩
theorem find_ev {l : List S35} {v : List Int} {words : Int} (hV : HV l v words) (off : Int) : Ev (fun k => image_find.f k v off) (l, findS off l 0) := by
  unfold image_find.f
  exact ev_bind (hv_blocks hV) (Ev.now _)
theorem hv_ne {l : List S35} {v : List Int} {words : Int} (hV : HV l v words) : l.length ≠ 0 := by
  intro e
  have hw := hV.1.1
  unfold MayW at hw
  have hl := List.eq_nil_of_length_eq_zero e
  have hc := hV.1.2
  rw [hl] at hc
  have hc : (0 : Int) = words := hc
  omega
theorem awake_ev : Ev (fun k => darninglaw19_awake.f k) true := Ev.of (fun k => darninglaw19_awake.mono k) (k := 60) (by decide +kernel)
theorem rneed_eq (n : Int) : darningref4_Need.f n = some (needS n) := by
  unfold darningref4_Need.f needS
  by_cases h1 : n < 1
  · rw [if_pos h1, if_pos (.inl h1)]
  · by_cases h2 : n > 448
    · rw [if_neg h1, if_pos h2, if_pos (.inr h2)]
    · rw [if_neg h1, if_neg h2, if_neg (by omega), w64 (n := n + 7) (by omega), tdivp (by omega), w64 (n := (n + 7) / 8) (by omega), w64 (by omega)]
      congr 1
      omega
theorem parse_heads {w : List Int} {l : List S35} : ∀ {a : Int}, ParseP w a l → ∀ b ∈ l, rd w b.f0 = headOf b := by
  induction l with
  | nil => intro a _ b hb; cases hb
  | cons c l ih =>
    intro a h b hb
    obtain ⟨_, h0, _, _, h1, h2, h3⟩ := h
    rcases List.mem_cons.1 hb with hb | hb
    · rw [hb]
      unfold headOf
      rw [h0, h1, h2]
      by_cases e : rd w a % 2 = 1
      · rw [if_pos (beq_iff_eq.2 e)]; omega
      · rw [if_neg (by rw [beq_eq_false_iff_ne.2 e]; decide)]; omega
    · exact ih h3 b hb
theorem roff_v (a b : Int) (c : Bool) : darningref4_Off.f a b c = some (offV a) := off_v a b c
theorem ris_l0 {l : List S35} (hl : l.length ≤ 100000) (off : Int) (suf : List S35) : ∀ pre : List S35, l = pre ++ suf → Ev (fun k => darningref4_Is.l0 k off l (l.length : Int) (pre.length : Int)) (findS off suf pre.length) := by
  induction suf with
  | nil =>
    intro pre he
    refine Ev.step (fun k => by rw [darningref4_Is.l0]) ?_
    exact ev_neg (by rw [he]; simp) (Ev.now _)
  | cons x suf ih =>
    intro pre he
    have hlt : (pre.length : Int) < (l.length : Int) := by rw [he]; simp; omega
    have em : rd_T35 l (pre.length : Int) = x := by rw [he]; exact rdt_mid pre suf x
    have w1 : wrap64 ((pre.length : Int) + 1) = ((pre ++ [x]).length : Int) := by rw [w64 (by omega)]; simp
    have h := ih (pre ++ [x]) (by rw [he]; simp)
    have e : findS off (x :: suf) pre.length = if (x.f2 && decide (offV x.f0 = off)) = true then (pre.length : Int) else findS off suf (pre ++ [x]).length := by
      rw [List.length_append]; rfl
    refine Ev.step (fun k => by rw [darningref4_Is.l0]) ?_
    rw [em, w1, e]
    refine ev_pos hlt (ev_pos (by omega) (ev_pos hlt ?_))
    refine ev_ite (fun c1 => ev_bindc (roff_v _ _ _) (ev_ite (fun c2 => ?_) (fun c2 => ?_))) (fun c1 => ?_)
    · rw [if_pos (by rw [c1, decide_eq_true c2]; rfl)]
      exact Ev.now _
    · rw [if_neg (by rw [decide_eq_false c2, Bool.and_false]; decide)]
      exact h
    · rw [if_neg (by rw [Bool.eq_false_iff.2 c1]; simp)]
      exact h
theorem ris_ev {l : List S35} (hl : l.length ≤ 100000) (off : Int) : Ev (fun k => darningref4_Is.f k l off) (findS off l 0) := ris_l0 hl off l [] rfl
theorem find_spec (off : Int) (l : List S35) (suf : List S35) : ∀ pre : List S35, l = pre ++ suf → findS off suf pre.length = -1 ∨ (0 ≤ findS off suf pre.length ∧ findS off suf pre.length < (l.length : Int) ∧ (rd_T35 l (findS off suf pre.length)).f2 = true) := by
  induction suf with
  | nil => intro pre _; exact .inl rfl
  | cons x suf ih =>
    intro pre he
    have h := ih (pre ++ [x]) (by rw [he]; simp)
    have e : findS off (x :: suf) pre.length = if (x.f2 && decide (offV x.f0 = off)) = true then (pre.length : Int) else findS off suf (pre ++ [x]).length := by
      rw [List.length_append]; rfl
    rw [e]
    split
    · case isTrue c =>
      right
      rw [Bool.and_eq_true] at c
      refine ⟨by omega, by rw [he]; simp; omega, ?_⟩
      rw [he, rdt_mid]
      exact c.1
    · exact h
theorem holds_good {o n : Int} {x : S35} (hx : 0 ≤ x.f0 ∧ 0 ≤ x.f1 ∧ x.f0 + x.f1 ≤ 512) (hn : 0 ≤ n ∧ n ≤ 448) : holdsB o n x = (x.f2 && (decide ((x.f0 + 1) * 8 ≤ o) && decide (o ≤ (x.f0 + x.f1) * 8 - n))) := by
  unfold holdsB
  rw [offv_in (by omega), w64 (n := x.f0 + x.f1) (by omega), w64 (n := (x.f0 + x.f1) * 8) (by omega), w64 (n := (x.f0 + x.f1) * 8 - n) (by omega)]
theorem within_l0 {l : List S35} (hl : l.length ≤ 100000) (hg : ∀ b ∈ l, 0 ≤ b.f0 ∧ 0 ≤ b.f1 ∧ b.f0 + b.f1 ≤ 512) (o n : Int) (hn : 0 ≤ n ∧ n ≤ 448) (suf : List S35) : ∀ pre : List S35, l = pre ++ suf → Ev (fun k => darningref4_Within.l0 k o n l (l.length : Int) (pre.length : Int)) (suf.any (holdsB o n)) := by
  induction suf with
  | nil =>
    intro pre he
    refine Ev.step (fun k => by rw [darningref4_Within.l0]) ?_
    exact ev_neg (by rw [he]; simp) (Ev.now _)
  | cons x suf ih =>
    intro pre he
    have hlt : (pre.length : Int) < (l.length : Int) := by rw [he]; simp; omega
    have em : rd_T35 l (pre.length : Int) = x := by rw [he]; exact rdt_mid pre suf x
    have w1 : wrap64 ((pre.length : Int) + 1) = ((pre ++ [x]).length : Int) := by rw [w64 (by omega)]; simp
    have h := ih (pre ++ [x]) (by rw [he]; simp)
    have hx := hg x (by rw [he]; simp)
    have J : ∀ c : Bool, c = holdsB o n x → Ev (fun k => darningref4_Within.j2 k o n l (l.length : Int) (pre.length : Int) c) ((x :: suf).any (holdsB o n)) := by
      intro c hc
      refine Ev.step (fun k => by rw [darningref4_Within.j2]) ?_
      rw [List.any_cons, ← hc, w1]
      cases c
      · exact ev_neg (by decide) h
      · exact ev_pos rfl (Ev.now _)
    refine Ev.step (fun k => by rw [darningref4_Within.l0]) ?_
    rw [em]
    refine ev_pos hlt (ev_pos (by omega) (ev_pos hlt ?_))
    rw [holds_good hx hn] at J
    refine ev_ite (fun c1 => ev_bindc (roff_v _ _ _) ?_) (fun c1 => J _ (by rw [Bool.eq_false_iff.2 c1]; rfl))
    rw [offv_in (by omega), w64 (n := x.f0 + x.f1) (by omega), w64 (n := (x.f0 + x.f1) * 8) (by omega)]
    rw [c1, Bool.true_and] at J
    refine ev_ite (fun c2 => ?_) (fun c2 => J _ (by rw [decide_eq_false (by omega)]; rfl))
    rw [decide_eq_true c2, Bool.true_and] at J
    refine ev_ite (fun c3 => J _ ?_) (fun c3 => J _ (by rw [decide_eq_false (by omega)]))
    rw [w64 (n := (x.f0 + x.f1) * 8 - o) (by omega)]
    exact decide_eq_decide.2 (by omega)
theorem holds_both {l : List S35} {v : List Int} {words : Int} (hV : HV l v words) (hl : l.length ≤ 100000) (o n : Int) : ∃ b, Ev (fun k => image_Holds.f k v o n) b ∧ Ev (fun k => darningref4_Within.f k l o n) b ∧ (b = true → 0 ≤ n ∧ n ≤ 448 ∧ 0 ≤ o ∧ o + n ≤ words * 8) := by
  have outp : Ev (fun k => darningref4_Within.j0 k l o n true) false := Ev.step (fun k => by rw [darningref4_Within.j0]) (ev_pos rfl (Ev.now _))
  unfold image_Holds.f darningref4_Within.f
  by_cases h0 : n < 0
  · exact ⟨false, ev_pos h0 (Ev.now _), ev_pos h0 outp, fun h => by cases h⟩
  · by_cases h1 : n > 448
    · refine ⟨false, ev_neg h0 (ev_pos h1 (Ev.now _)), ev_neg h0 ?_, fun h => by cases h⟩
      rw [decide_eq_true h1]
      exact outp
    · have hg : ∀ b ∈ l, 0 ≤ b.f0 ∧ 0 ≤ b.f1 ∧ b.f0 + b.f1 ≤ 512 := fun b hb => by
        have h1 := chain_mem hV.1.2 b hb
        have h2 := hV.1.1
        unfold MayW at h2
        omega
      refine ⟨l.any (holdsB o n), ev_neg h0 (ev_neg h1 (ev_bind (hv_blocks hV) (Ev.now _))), ev_neg h0 ?_, fun h => ?_⟩
      · rw [decide_eq_false h1]
        refine Ev.step (fun k => by rw [darningref4_Within.j0]) ?_
        exact ev_neg (by decide) (within_l0 hl hg o n (by omega) l [] rfl)
      · obtain ⟨x, hx, hh⟩ := List.any_eq_true.1 h
        rw [holds_good (hg x hx) (by omega)] at hh
        simp only [Bool.and_eq_true, decide_eq_true_eq] at hh
        have h3 := chain_mem hV.1.2 x hx
        omega
theorem no_blocks {v : List Int} (h : Ev (fun k => chain_Blocks.f k v) ([], false)) (o n : Int) : Ev (fun k => image_Holds.f k v o n) false := by
  unfold image_Holds.f
  exact ev_ite (fun _ => Ev.now _) (fun _ => ev_ite (fun _ => Ev.now _) (fun _ => ev_bind h (Ev.now _)))
theorem rd_both {w : List Int} {off n : Int} (hw : w.length ≤ 2000) (hn : 0 ≤ n ∧ n ≤ 448) (ho : 0 ≤ off ∧ off + n ≤ w.length * 8) (d : Nat) : ∀ (acc : List Int) (i : Int), 0 ≤ i → i + d = off + n → acc.length + d ≤ 1000 →
    ∃ r, Ev (fun k => span_Read.l0 k w off n acc i) r ∧ Ev (fun k => darningref4_ReadBytes.l0 k w off n acc i) r := by
  induction d with
  | zero =>
    intro acc i h0 h1 h2
    have e : ¬ i < wrap64 (off + n) := by rw [w64 (by omega)]; omega
    exact ⟨(acc, true), Ev.step (fun k => by rw [span_Read.l0]) (ev_neg e (Ev.now _)), Ev.step (fun k => by rw [darningref4_ReadBytes.l0]) (ev_neg e (Ev.now _))⟩
  | succ d ih =>
    intro acc i h0 h1 h2
    have e : i < wrap64 (off + n) := by rw [w64 (by omega)]; omega
    obtain ⟨r, h3, h4⟩ := ih (acc ++ [(shr .u64 (rd w (i / 8)) (i % 8 * 8)) % 256]) (i + 1) (by omega) (by omega) (by simp; omega)
    have sh : IntKind.u64.wrap (i % 8 * 8) = i % 8 * 8 := u64_wraps _ (by omega) (by omega)
    refine ⟨r, Ev.step (fun k => by rw [span_Read.l0]) ?_, Ev.step (fun k => by rw [darningref4_ReadBytes.l0]) ?_⟩
    · rw [tdivp h0, tmodp h0, w64 (n := i / 8) (by omega), w64 (n := i % 8 * 8) (by omega), w64 (n := i + 1) (by omega)]
      exact ev_pos e (ev_pos (by omega) (ev_pos (by omega) (ev_pos (by omega) (ev_pos (by omega) h3))))
    · rw [tdivp h0, tmodp h0, w64 (n := i / 8) (by omega), w64 (n := i % 8 * 8) (by omega), w64 (n := i + 1) (by omega), sh]
      exact ev_pos e (ev_pos (by omega) (ev_pos (by omega) (ev_pos (by omega) (ev_pos (by omega) h4))))
def bset (y : List S30) (c s : Int) : List S30 :=
  y.set (((y.length : Int) - 1) : Int).toNat (⟨(rd_T30 y ((y.length : Int) - 1)).f0, Go.bits .or .u64 (Go.bits .andNot .u64 ((rd_T30 y ((y.length : Int) - 1)).f1) (shl .u64 255 s)) (shl .u64 (IntKind.u64.wrap c) s)⟩ : S30)
theorem wr_both {w b : List Int} {off : Int} (hw : w.length ≤ 2000) (hn : b.length ≤ 448) (ho : 0 ≤ off ∧ off + b.length ≤ w.length * 8) (d : Nat) : ∀ (acc : List S30) (i : Int), 0 ≤ i → i + d = b.length → acc.length ≤ i →
    ∃ r, Ev (fun k => span_Edits.l0 k w off acc b (b.length : Int) i) r ∧ Ev (fun k => darningref4_ByteEdits.l0 k w off acc b (b.length : Int) i) r ∧ r.1.length ≤ 1000 := by
  induction d with
  | zero =>
    intro acc i h0 h1 h2
    exact ⟨(acc, true), Ev.step (fun k => by rw [span_Edits.l0]) (ev_neg (by omega) (Ev.now _)), Ev.step (fun k => by rw [darningref4_ByteEdits.l0]) (ev_neg (by omega) (Ev.now _)), by dsimp only; omega⟩
  | succ d ih =>
    intro acc i h0 h1 h2
    have ei : wrap64 (off + i) = off + i := w64 (by omega)
    have ed : wrap64 (Int.tdiv (off + i) 8) = (off + i) / 8 := by rw [tdivp (by omega), w64 (by omega)]
    have es : wrap64 (Int.tmod (off + i) 8 * 8) = (off + i) % 8 * 8 := by rw [tmodp (by omega), w64 (by omega)]
    have sh : IntKind.u64.wrap ((off + i) % 8 * 8) = (off + i) % 8 * 8 := u64_wraps _ (by omega) (by omega)
    have next : ∀ acc2 : List S30, acc2.length ≤ i + 1 → ∃ r, Ev (fun k => span_Edits.j2 k w off acc2 b (b.length : Int) i) r ∧ Ev (fun k => darningref4_ByteEdits.j2 k w off acc2 b (b.length : Int) i) r ∧ r.1.length ≤ 1000 := by
      intro acc2 h3
      obtain ⟨r, h4, h5, h6⟩ := ih acc2 (i + 1) (by omega) (by omega) h3
      refine ⟨r, Ev.step (fun k => by rw [span_Edits.j2]) ?_, Ev.step (fun k => by rw [darningref4_ByteEdits.j2]) ?_, h6⟩
      · rw [w64 (n := i + 1) (by omega)]; exact h4
      · rw [w64 (n := i + 1) (by omega)]; exact h5
    have J : ∀ q : Bool, (q = false → acc.length ≠ 0) → ∃ r, Ev (fun k => span_Edits.j1 k w off acc (rd b i) (off + i) b (b.length : Int) i q) r ∧ Ev (fun k => darningref4_ByteEdits.j1 k w off acc (rd b i) ((off + i) / 8) ((off + i) % 8 * 8) b (b.length : Int) i q) r ∧ r.1.length ≤ 1000 := by
      intro q hq
      cases q with
      | true =>
        have hy : (acc ++ [(⟨(off + i) / 8, rd w ((off + i) / 8)⟩ : S30)]).length = acc.length + 1 := by simp
        obtain ⟨r, h4, h5, h6⟩ := next (bset (acc ++ [(⟨(off + i) / 8, rd w ((off + i) / 8)⟩ : S30)]) (rd b i) ((off + i) % 8 * 8)) (by unfold bset; rw [List.length_set, hy]; omega)
        refine ⟨r, Ev.step (fun k => by rw [span_Edits.j1]) ?_, Ev.step (fun k => by rw [darningref4_ByteEdits.j1]) ?_, h6⟩
        · rw [ed, es]
          refine ev_pos rfl (ev_pos (by omega) (ev_pos (by omega) (ev_pos (by omega) (ev_bindc rfl ?_))))
          rw [w64 (n := ((acc ++ [(⟨(off + i) / 8, rd w ((off + i) / 8)⟩ : S30)]).length : Int) - 1) (by omega)]
          exact ev_pos (by omega) (ev_pos (by omega) (ev_pos (by omega) h4))
        · refine ev_pos rfl (ev_pos (by omega) (ev_pos (by omega) (ev_pos (by omega) (ev_bindc rfl ?_))))
          rw [w64 (n := ((acc ++ [(⟨(off + i) / 8, rd w ((off + i) / 8)⟩ : S30)]).length : Int) - 1) (by omega)]
          exact ev_pos (by omega) (ev_pos (by omega) (ev_pos (by omega) h5))
      | false =>
        have hq := hq rfl
        obtain ⟨r, h4, h5, h6⟩ := next (bset acc (rd b i) ((off + i) % 8 * 8)) (by unfold bset; rw [List.length_set]; omega)
        refine ⟨r, Ev.step (fun k => by rw [span_Edits.j1]) ?_, Ev.step (fun k => by rw [darningref4_ByteEdits.j1]) ?_, h6⟩
        · rw [es, w64 (n := (acc.length : Int) - 1) (by omega)]
          exact ev_neg (by decide) (ev_pos (by omega) (ev_pos (by omega) (ev_pos (by omega) h4)))
        · rw [w64 (n := (acc.length : Int) - 1) (by omega)]
          exact ev_neg (by decide) (ev_pos (by omega) (ev_pos (by omega) (ev_pos (by omega) h5)))
    by_cases hz : (acc.length : Int) = 0
    · obtain ⟨r, h4, h5, h6⟩ := J true (fun h => by cases h)
      refine ⟨r, Ev.step (fun k => by rw [span_Edits.l0]) ?_, Ev.step (fun k => by rw [darningref4_ByteEdits.l0]) ?_, h6⟩
      · rw [ei]
        exact ev_pos (by omega) (ev_pos h0 (ev_pos (by omega) (ev_pos hz h4)))
      · rw [ei, ed, es, sh]
        exact ev_pos (by omega) (ev_pos h0 (ev_pos (by omega) (ev_pos hz h5)))
    · obtain ⟨r, h4, h5, h6⟩ := J (((rd_T30 acc ((acc.length : Int) - 1)).f0) != (off + i) / 8) (fun _ => by omega)
      refine ⟨r, Ev.step (fun k => by rw [span_Edits.l0]) ?_, Ev.step (fun k => by rw [darningref4_ByteEdits.l0]) ?_, h6⟩
      · rw [ei, ed, w64 (n := (acc.length : Int) - 1) (by omega)]
        exact ev_pos (by omega) (ev_pos h0 (ev_pos (by omega) (ev_neg hz (ev_pos (by omega) (ev_pos (by omega) h4)))))
      · rw [ei, ed, es, sh, w64 (n := (acc.length : Int) - 1) (by omega)]
        exact ev_pos (by omega) (ev_pos h0 (ev_pos (by omega) (ev_neg hz (ev_pos (by omega) (ev_pos (by omega) h5)))))
theorem swithin {w : List Int} {o n : Int} (hw : w.length ≤ 2000) (h : 0 ≤ n ∧ n ≤ 448 ∧ 0 ≤ o ∧ o + n ≤ w.length * 8) : span_within.f w o n = some true := by
  unfold span_within.f
  rw [if_pos h.2.2.1, if_pos h.1, if_pos h.2.1, w64 (n := (w.length : Int) * 8) (by omega), w64 (by omega), decide_eq_true (by omega)]
theorem rinside {w : List Int} {o n : Int} (hw : w.length ≤ 2000) (h : 0 ≤ n ∧ n ≤ 448 ∧ 0 ≤ o ∧ o + n ≤ w.length * 8) : darningref4_inside.f (w.length : Int) o n = some true := by
  unfold darningref4_inside.f
  rw [if_pos h.2.2.1, if_pos h.1, if_pos h.2.1, w64 (n := 8 * (w.length : Int)) (by omega), if_pos (by omega), w64 (by omega), decide_eq_true (by omega)]
theorem alloc_both {w : List Int} {n : Int} {counts : List Int} (hw : Wds w) (hlen : w.length ≤ 600) : ∃ r, Ev (fun k => image_Alloc.f k w n counts) r ∧ Ev (fun k => darningref4_ImageAlloc.f k w n counts) r ∧ r.1.length ≤ 1000 := by
  unfold image_Alloc.f darningref4_ImageAlloc.f
  by_cases hz : needS n = 0
  · exact ⟨([], 0, 1), ev_bindc (need_eq n) (ev_pos hz (Ev.now _)), ev_bindc (rneed_eq n) (ev_pos hz (Ev.now _)), by simp⟩
  · have hn : 2 ≤ needS n := by have := need_r n; omega
    obtain ⟨r, b1, b2⟩ := blocks_ev hw
    obtain ⟨r', b3, b4⟩ := rblocks_ev hw
    rw [blocks_one b4 b2] at b3
    obtain ⟨l, ok⟩ := r
    rcases b2 with ⟨q1, q2, q3⟩ | ⟨_, q⟩
    · dsimp only at q1 q2 q3
      subst q3
      have hl := chain_len q2.2
      obtain ⟨out, c, h1, h2, h3, h5, h4⟩ := rchoose_ev (counts := counts) q2 (wf_may q2 (by omega)) hn
      rcases chosen h2 h4 with ⟨hc, _, hno⟩ | ⟨c0, c1, hok, _⟩
      · exact ⟨([], 0, 4), ev_bindc (need_eq n) (ev_neg hz (ev_bind b1 (ev_pos rfl (ev_bind h3 (ev_pos (by omega) (Ev.now _)))))),
          ev_bindc (rneed_eq n) (ev_neg hz (ev_bind b3 (ev_pos rfl (ev_bindc (rneed_eq n) (ev_bind h5 (ev_pos (by omega) (Ev.now _))))))), by simp⟩
      · have can := (canc_of q2 c0 c1 hn).2 hok
        have hr := isb_rd can.1 c0 c1
        have ht := tk_r can.2.2.2.2 hr.2.1
        have hel := eds_len (b := rd_T35 l c) (need := needS n) ht.1
        have ce := cedits_yes (l := l) (by omega) can
        have re := redits_yes (l := l) (by omega) can
        refine ⟨(eds (rd_T35 l c) (needS n), offV (rd_T35 l c).f0, 0), ev_bindc (need_eq n) (ev_neg hz (ev_bind b1 (ev_pos rfl (ev_bind h3 (ev_neg (by omega) (ev_bind ce (ev_pos c0 (ev_pos c1 (ev_bindc (off_v _ _ _) (Ev.now _)))))))))),
          ev_bindc (rneed_eq n) (ev_neg hz (ev_bind b3 (ev_pos rfl (ev_bindc (rneed_eq n) (ev_bind h5 (ev_neg (by omega) (ev_bindc (rneed_eq n) (ev_bind re (ev_pos c0 (ev_pos c1 (ev_bindc (roff_v _ _ _) (Ev.now _)))))))))))), ?_⟩
        dsimp only
        split at hel <;> omega
    · obtain ⟨rfl, rfl⟩ := Prod.mk.inj q
      exact ⟨([], 0, 6), ev_bindc (need_eq n) (ev_neg hz (ev_bind b1 (ev_neg (by decide) (Ev.now _)))), ev_bindc (rneed_eq n) (ev_neg hz (ev_bind b3 (ev_neg (by decide) (Ev.now _)))), by simp⟩
theorem free_both {l : List S35} {v : List Int} {words : Int} (hV : HV l v words) (hl : l.length ≤ 1000) (b3 : Ev (fun k => darningref4_Blocks.f k v) (l, true)) (off : Int) : ∃ r, Ev (fun k => image_Free.f k v off) r ∧ Ev (fun k => darningref4_ImageFree.f k v off) r ∧ r.1.length ≤ 1000 := by
  have hne := hv_ne hV
  have hf := find_ev hV off
  have hi := ris_ev (l := l) (by omega) off
  unfold image_Free.f darningref4_ImageFree.f
  rcases find_spec off l l [] rfl with h | ⟨c0, c1, hu⟩
  · have h : findS off l 0 = -1 := h
    rw [h] at hf hi
    have hnc : ¬ Can l (-1) := fun h => by have := h.2.1; omega
    exact ⟨([], 1), ev_bind hf (ev_neg (by dsimp only; omega) (ev_bind (medit_no hl hnc) (ev_neg (by decide) (Ev.now _)))),
      ev_bind b3 (ev_pos rfl (ev_bind hi (ev_bind (rmerged_no hl hnc) (ev_neg (by decide) (Ev.now _))))), by simp⟩
  · generalize hc : findS off l ([] : List S35).length = c at c0 c1 hu
    have hc : findS off l 0 = c := hc
    rw [hc] at hf hi
    have can := can_of hV.1 ⟨c0, c1⟩ hu
    have ft := from_to ⟨c0, c1⟩
    have hp : ((mP l c).length : Int) = mFrom l c := by
      unfold mP
      rw [List.length_take]
      omega
    have er : rd_T35 (mrg l c) (mFrom l c) = ⟨(rd_T35 l (mFrom l c)).f0, sumS (mM l c), false⟩ := by
      unfold mrg
      rw [← hp, List.append_assoc]
      exact rdt_mid _ _ _
    have e1 : darningref4_Word.f (sumS (mM l c)) false = some (hWordM (sumS (mM l c)) false) := by
      have : darningref4_Word.f (sumS (mM l c)) false = block_Word.f (sumS (mM l c)) false := rfl
      rw [this]; exact word_eq _ _
    refine ⟨([⟨(rd_T35 l (mFrom l c)).f0, hWordM (sumS (mM l c)) false⟩], 0), ev_bind hf (ev_neg (by dsimp only; omega) (ev_bind (medit_yes hl can) (ev_pos rfl (Ev.now _)))),
      ev_bind b3 (ev_pos rfl (ev_bind hi (ev_bind (rmerged_yes hl can) (ev_pos rfl (ev_pos ft.1 (ev_pos ?_ ?_)))))), by simp⟩
    · show mFrom l c < ((mrg l c).length : Int)
      unfold mrg
      simp only [List.length_append, List.length_cons, List.length_nil]
      omega
    · dsimp only
      rw [er]
      exact ev_bindc e1 (Ev.now _)
theorem ihold {l : List S35} {v : List Int} {words o n : Int} {b : Bool} (hV : HV l v words) (h : Ev (fun k => image_Holds.f k v o n) b) : Ev (fun k => image_holds.f k v o n) (if b = true then 0 else 1) := by
  unfold image_holds.f
  refine ev_bind (hv_blocks hV) (ev_pos rfl (ev_bind h ?_))
  cases b
  · exact ev_neg (by decide) (Ev.now _)
  · exact ev_pos rfl (Ev.now _)
theorem read_both {l : List S35} {v : List Int} (hV : HV l v v.length) (hl : l.length ≤ 1000) (b3 : Ev (fun k => darningref4_Blocks.f k v) (l, true)) (o n : Int) : ∃ r, Ev (fun k => image_Read.f k v o n) r ∧ Ev (fun k => darningref4_ImageRead.f k v o n) r := by
  obtain ⟨b, h1, h2, h3⟩ := holds_both hV (by omega) o n
  have h4 := ihold hV h1
  unfold image_Read.f darningref4_ImageRead.f
  cases b with
  | false => exact ⟨([], 1), ev_bind h4 (ev_neg (by decide) (Ev.now _)), ev_bind b3 (ev_pos rfl (ev_bind h2 (ev_neg (by decide) (Ev.now _))))⟩
  | true =>
    have h3 := h3 rfl
    have hw := hV.2.1.1
    obtain ⟨r, h5, h6⟩ := rd_both (off := o) (n := n) hw (by omega) (by omega) n.toNat [] o h3.2.2.1 (by omega) (by simp; omega)
    have h7 : Ev (fun k => span_Read.f k v o n) r := by
      unfold span_Read.f
      exact ev_bindc (swithin hw h3) (ev_pos rfl h5)
    have h8 : Ev (fun k => darningref4_ReadBytes.f k v o n) r := by
      unfold darningref4_ReadBytes.f
      exact ev_bindc (rinside hw h3) (ev_pos rfl h6)
    exact ⟨(r.1, 0), ev_bind h4 (ev_pos rfl (ev_bind h7 (Ev.now _))), ev_bind b3 (ev_pos rfl (ev_bind h2 (ev_pos rfl (ev_bind h8 (Ev.now _)))))⟩
theorem write_both {l : List S35} {v : List Int} (hV : HV l v v.length) (hl : l.length ≤ 1000) (b3 : Ev (fun k => darningref4_Blocks.f k v) (l, true)) (o : Int) (d : List Int) : ∃ r, Ev (fun k => image_Write.f k v o d) r ∧ Ev (fun k => darningref4_ImageWrite.f k v o d) r ∧ r.1.length ≤ 1000 := by
  obtain ⟨b, h1, h2, h3⟩ := holds_both hV (by omega) o (d.length : Int)
  have h4 := ihold hV h1
  unfold image_Write.f darningref4_ImageWrite.f
  cases b with
  | false => exact ⟨([], 1), ev_bind h4 (ev_neg (by decide) (Ev.now _)), ev_bind b3 (ev_pos rfl (ev_bind h2 (ev_neg (by decide) (Ev.now _)))), by simp⟩
  | true =>
    have h3 := h3 rfl
    have hw := hV.2.1.1
    obtain ⟨r, h5, h6, h9⟩ := wr_both (b := d) hw (by omega) ⟨h3.2.2.1, h3.2.2.2⟩ d.length [] 0 (by omega) (by omega) (by simp)
    have h7 : Ev (fun k => span_Edits.f k v o d) r := by
      unfold span_Edits.f
      exact ev_bindc (swithin hw h3) (ev_pos rfl h5)
    have h8 : Ev (fun k => darningref4_ByteEdits.f k v o d) r := by
      unfold darningref4_ByteEdits.f
      exact ev_bindc (rinside hw h3) (ev_pos rfl h6)
    exact ⟨(r.1, 0), ev_bind h4 (ev_pos rfl (ev_bind h7 (Ev.now _))), ev_bind b3 (ev_pos rfl (ev_bind h2 (ev_pos rfl (ev_bind h8 (Ev.now _))))), h9⟩
theorem ImageForms : darninglaw19_ImageForms.Pure := by
  intro w n counts off b hm0 hy0 hw0 hn hm2 hy2 hw2 ho hm4 hy4 hw4
  apply Ev.rounds
  unfold darninglaw19_ImageForms.f
  have outp : Ev (fun k => darninglaw19_ImageForms.j0 k w n counts off b true) true := by
    refine Ev.step (fun k => by rw [darninglaw19_ImageForms.j0]) ?_
    exact ev_pos rfl (ev_bind awake_ev (Ev.now _))
  refine ev_ite (fun _ => outp) (fun c1 => ev_ite (fun _ => outp) (fun c2 => ?_))
  by_cases c3 : (b.length : Int) > 600
  · rw [decide_eq_true c3]; exact outp
  rw [decide_eq_false c3]
  refine Ev.step (fun k => by rw [darninglaw19_ImageForms.j0]) ?_
  refine ev_neg (by decide) ?_
  have W : Wds w := wds_of hw0 (by omega)
  obtain ⟨r, a1, a2, a3⟩ := alloc_both (n := n) (counts := counts) W (by omega)
  refine ev_bind a1 (ev_bind a2 ?_)
  obtain ⟨p, b1, b2⟩ := blocks_ev W
  obtain ⟨p', b3, b4⟩ := rblocks_ev W
  rw [blocks_one b4 b2] at b3
  obtain ⟨l, ok⟩ := p
  rcases b2 with ⟨q1, q2, q3⟩ | ⟨_, q⟩
  · dsimp only at q1 q2 q3
    subst q3
    have hl := chain_len q2.2
    have hV : HV l w w.length := ⟨q2, W, rfl, parse_heads q1⟩
    obtain ⟨r2, d1, d2, d3⟩ := free_both hV (by omega) b3 off
    obtain ⟨r3, e1, e2⟩ := read_both hV (by omega) b3 off n
    obtain ⟨r4, f1, f2, f3⟩ := write_both hV (by omega) b3 off b
    obtain ⟨q, g1, g2, _⟩ := holds_both hV (by omega) off n
    have his : Ev (fun k => image_Is.f k w off) (decide (findS off l 0 ≥ 0)) := by
      unfold image_Is.f
      exact ev_bind (find_ev hV off) (Ev.now _)
    refine ev_bind d1 (ev_bind d2 (ev_bind e1 (ev_bind e2 (ev_bind f1 (ev_bind f2 (ev_bind b3 ?_))))))
    refine ev_bind (samee (by omega)) (ev_pos rfl (ev_pos rfl (ev_pos rfl (ev_bind (samee (by omega)) (ev_pos rfl (ev_pos rfl (ev_pos rfl (ev_pos rfl ?_))))))))
    refine ev_bind (samee (by omega)) (ev_pos rfl (ev_pos rfl (ev_bind his (ev_pos rfl (ev_bind (ris_ev (l := l) (by omega) off) (ev_pos (beq_self_eq_true _) ?_))))))
    exact ev_bind g1 (ev_bind g2 (ev_pos (beq_self_eq_true _) (ev_bind awake_ev (Ev.now _))))
  · obtain ⟨rfl, rfl⟩ := Prod.mk.inj q
    have hf : Ev (fun k => image_find.f k w off) (([] : List S35), -1) := by
      unfold image_find.f
      exact ev_bind b1 (Ev.now _)
    have d1 : Ev (fun k => image_Free.f k w off) ([], 6) := by
      unfold image_Free.f
      exact ev_bind hf (ev_pos rfl (Ev.now _))
    have d2 : Ev (fun k => darningref4_ImageFree.f k w off) ([], 6) := by
      unfold darningref4_ImageFree.f
      exact ev_bind b3 (ev_neg (by decide) (Ev.now _))
    have hh : ∀ m, Ev (fun k => image_holds.f k w off m) 6 := fun m => by
      unfold image_holds.f
      exact ev_bind b1 (ev_neg (by decide) (Ev.now _))
    have e1 : Ev (fun k => image_Read.f k w off n) ([], 6) := by
      unfold image_Read.f
      exact ev_bind (hh n) (ev_neg (by decide) (Ev.now _))
    have e2 : Ev (fun k => darningref4_ImageRead.f k w off n) ([], 6) := by
      unfold darningref4_ImageRead.f
      exact ev_bind b3 (ev_neg (by decide) (Ev.now _))
    have f1 : Ev (fun k => image_Write.f k w off b) ([], 6) := by
      unfold image_Write.f
      exact ev_bind (hh _) (ev_neg (by decide) (Ev.now _))
    have f2 : Ev (fun k => darningref4_ImageWrite.f k w off b) ([], 6) := by
      unfold darningref4_ImageWrite.f
      exact ev_bind b3 (ev_neg (by decide) (Ev.now _))
    have his : Ev (fun k => image_Is.f k w off) false := by
      unfold image_Is.f
      exact ev_bind hf (Ev.now _)
    refine ev_bind d1 (ev_bind d2 (ev_bind e1 (ev_bind e2 (ev_bind f1 (ev_bind f2 (ev_bind b3 ?_))))))
    refine ev_bind (samee (by omega)) (ev_pos rfl (ev_pos rfl (ev_pos rfl (ev_bind (samee (by simp)) (ev_pos rfl (ev_pos rfl (ev_pos rfl (ev_pos rfl ?_))))))))
    refine ev_bind (samee (by simp)) (ev_pos rfl (ev_pos rfl (ev_bind his (ev_neg (by decide) (ev_pos rfl ?_)))))
    exact ev_bind (no_blocks b1 off n) (ev_pos rfl (ev_bind awake_ev (Ev.now _)))

end Go.Proofs.Ytglekonhdjploaa.Pure

namespace Go.Proofs.Ytglekonhdjploaa.PrintWords
open Go.ChangeShapes Go.WideShapes
/-- The printed words' lemma, under the name by which the printed row finds it. -/
theorem sized_ints {H : Type} {enc : TypeId × Value → H} {P : Program} {W : World} {base : Nat} {spare : Nat → Bool} {held : Bool} {t e : TypeId} {k : IntKind} {a : Option Addr} {len cap : Nat} {d : DataW H} {ps : List MemPlace} {ts : List TypeId} {ds : List (DataW H)} {j : Nat}
    (hsz : (DataW.weightsEach P ts ds).all (· ≤ reachBytes) = true) (ht : ts[j]? = some t) (hd : ds[j]? = some d) (hu : P.underlying t = some (.slice e)) (he : P.underlying e = some (.int k)) (hc : P.cellsOf e = 1) {B : Nat} (hB : P.bytesOf e = B)
    (h : DataW.Trod enc P W base spare held t (.slice a len cap) d ps) : len * B ≤ 140737488351232 :=
  Go.Proofs.YtglekonhdjploaaW.PrintWords.sized_ints hsz ht hd hu he hc hB h
end Go.Proofs.Ytglekonhdjploaa.PrintWords
