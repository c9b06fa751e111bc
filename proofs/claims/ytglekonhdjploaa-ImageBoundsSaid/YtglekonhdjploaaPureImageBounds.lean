/- ImageBounds: what a block taken holds, and what it does not. -/
import Derived.Test.YtglekonhdjploaaXImageBoundsx
namespace Go.Proofs.Ytglekonhdjploaa.Pure
open Go.RowKit Go.Proofs.Ytglekonhdjploaa.XImageBounds Go.Proofs.YtglekonhdjploaaW.PrintWords Go.Proofs.YtglekonhdjploaaW.PrintLast

theorem u64w (n : Int) : IntKind.u64.wrap n = n % 18446744073709551616 := by simp [IntKind.wrap, IntKind.bits, IntKind.signed]
theorem w64 {n : Int} (h : -9223372036854775808 ≤ n ∧ n ≤ 9223372036854775807) : wrap64 n = n := by unfold wrap64; omega
theorem tmodp {a b : Int} (h : 0 ≤ a) : Int.tmod a b = a % b := Int.tmod_eq_emod_of_nonneg h
theorem tdivp {a b : Int} (h : 0 ≤ a) : Int.tdiv a b = a / b := Int.tdiv_eq_ediv_of_nonneg h
theorem u64_wraps (n : Int) (h₀ : 0 ≤ n) (h₁ : n < 2 ^ 64) : IntKind.u64.wrap n = n := by rw [u64w]; omega
theorem u64_mask (i : Nat) (hi : i ≤ 64) (x : Int) (h₀ : 0 ≤ x) (h₁ : x < 2 ^ 64) : Go.bits .and .u64 x (2 ^ i - 1) = x % 2 ^ i :=
  bits_mask .u64 64 (by decide) u64_wraps i hi x h₀ h₁
theorem u64_and1 {x : Int} (h₀ : 0 ≤ x) (h₁ : x ≤ 18446744073709551615) : Go.bits .and .u64 x 1 = x % 2 := u64_mask 1 (by decide) x h₀ (by omega)
theorem u64_or1 {x : Int} (h₀ : 0 ≤ x) (h₁ : x ≤ 18446744073709551615) (h : x % 2 = 0) : Go.bits .or .u64 x 1 = x + 1 :=
  bits_join .u64 64 (by decide) u64_wraps 1 x 1 h₀ h (by omega) (by decide) (by decide) (by decide)
theorem modw (a m : Int) (h : 0 < m) (hm : m ≤ 1000000) : wrap64 (Int.tmod (IntKind.u64.wrap a) m) = (a % 18446744073709551616) % m := by
  rw [u64w, tmodp (by omega), w64]
  have := Int.emod_nonneg (a % 18446744073709551616) (b := m) (by omega)
  have := Int.emod_lt_of_pos (a % 18446744073709551616) h
  omega
theorem ev_pos {α : Type} {c : Prop} [Decidable c] {a b : Nat → Option α} {r : α} (h : c) (k : Ev a r) : Ev (fun n => if c then a n else b n) r := by
  simp only [if_pos h]; exact k
theorem ev_neg {α : Type} {c : Prop} [Decidable c] {a b : Nat → Option α} {r : α} (h : ¬ c) (k : Ev b r) : Ev (fun n => if c then a n else b n) r := by
  simp only [if_neg h]; exact k
theorem ev_ite {α : Type} {c : Prop} [Decidable c] {a b : Nat → Option α} {r : α} (h1 : c → Ev a r) (h2 : ¬ c → Ev b r) : Ev (fun n => if c then a n else b n) r := by
  by_cases h : c
  · exact ev_pos h (h1 h)
  · exact ev_neg h (h2 h)
theorem ev_bindc {α β : Type} {o : Option α} {f : Nat → α → Option β} {a : α} {r : β} (h : o = some a) (k : Ev (fun n => f n a) r) : Ev (fun n => o.bind (f n)) r := by
  subst h; exact k
theorem ev_bind {α β : Type} {g : Nat → Option α} {f : Nat → α → Option β} {a : α} {r : β} (h : Ev g a) (k : Ev (fun n => f n a) r) : Ev (fun n => (g n).bind (f n)) r := Ev.bind h k
theorem ev_now {α : Type} {r s : α} (h : s = r) : Ev (fun _ => some s) r := by subst h; exact Ev.now _
theorem rdt_mid (pre suf : List S35) (x : S35) : rd_T35 (pre ++ x :: suf) (pre.length : Int) = x := by
  unfold rd_T35
  rw [List.getD_eq_getElem?_getD, Int.toNat_natCast, List.getElem?_append_right (by omega)]
  simp
theorem rdt_get {l : List S35} {j : Int} (h0 : 0 ≤ j) (h1 : j < l.length) : ∃ h : j.toNat < l.length, rd_T35 l j = l[j.toNat]'h := by
  refine ⟨by omega, ?_⟩
  unfold rd_T35
  rw [List.getD_eq_getElem?_getD, List.getElem?_eq_getElem (by omega)]
  rfl
theorem rdt_mem {l : List S35} {j : Int} (h0 : 0 ≤ j) (h1 : j < l.length) : rd_T35 l j ∈ l := by
  obtain ⟨h, e⟩ := rdt_get h0 h1
  rw [e]
  exact List.getElem_mem h
def ChainP (words : Int) : Int → Bool → List S35 → Prop
  | a, _, [] => a = words
  | a, fr, b :: l => b.f0 = a ∧ 2 ≤ b.f1 ∧ b.f1 ≤ 512 ∧ b.f1 ≤ words - a ∧ (fr = true → b.f2 = true) ∧ ChainP words (a + b.f1) (!b.f2) l
def MayW (words : Int) : Prop := 8 ≤ words ∧ words ≤ 512 ∧ words % 8 = 0
instance (words : Int) : Decidable (MayW words) := by unfold MayW; infer_instance
def MayB (l : List S35) (words : Int) : Prop := MayW words ∧ ChainP words 0 false l
theorem chain_mem {words : Int} {l : List S35} : ∀ {a : Int} {fr : Bool}, ChainP words a fr l → ∀ b ∈ l, a ≤ b.f0 ∧ 2 ≤ b.f1 ∧ b.f1 ≤ 512 ∧ b.f0 + b.f1 ≤ words := by
  induction l with
  | nil => exact fun _ b hb => absurd hb (by simp)
  | cons c l ih =>
    intro a fr h b hb
    obtain ⟨h0, h1, h2, h3, h4, h5⟩ := h
    rcases List.mem_cons.1 hb with hb | hb
    · subst hb; omega
    · have := ih h5 b hb; omega
theorem chain_up {words : Int} {l : List S35} : ∀ {a : Int} {fr : Bool}, ChainP words a fr l → l.Pairwise (fun b c => b.f0 + b.f1 ≤ c.f0) := by
  induction l with
  | nil => exact fun _ => List.Pairwise.nil
  | cons c l ih =>
    intro a fr h
    obtain ⟨h0, h1, h2, h3, h4, h5⟩ := h
    refine List.pairwise_cons.2 ⟨fun b hb => ?_, ih h5⟩
    have := chain_mem h5 b hb
    omega
theorem chain_rd {words : Int} {l : List S35} (h : ChainP words 0 false l) {j : Int} (h0 : 0 ≤ j) (h1 : j < l.length) :
    0 ≤ (rd_T35 l j).f0 ∧ 2 ≤ (rd_T35 l j).f1 ∧ (rd_T35 l j).f1 ≤ 512 ∧ (rd_T35 l j).f0 + (rd_T35 l j).f1 ≤ words := chain_mem h _ (rdt_mem h0 h1)
theorem cmayw_eq (n : Int) : chain_mayWords.f n = some (decide (8 ≤ n ∧ n ≤ 512 ∧ n % 8 = 0)) := by
  unfold chain_mayWords.f
  by_cases h1 : n ≥ 8
  · rw [if_pos h1]
    by_cases h2 : n ≤ 512
    · rw [if_pos h2, tmodp (by omega)]
      congr 1
      rw [Bool.eq_iff_iff, beq_iff_eq, decide_eq_true_iff]
      exact ⟨fun h => ⟨h1, h2, h⟩, fun h => h.2.2⟩
    · rw [if_neg h2, decide_eq_false (by omega)]
  · rw [if_neg h1, decide_eq_false (by omega)]
theorem bmay_eq (n : Int) : block_May.f n = some (decide (2 ≤ n ∧ n ≤ 512)) := by
  unfold block_May.f
  by_cases h2 : n ≥ 2
  · rw [if_pos h2]; congr 1; rw [Bool.eq_iff_iff]; simp only [decide_eq_true_iff]; omega
  · rw [if_neg h2, decide_eq_false (by omega)]
theorem cmay_l0 {words : Int} (hw : words ≤ 100000) (suf : List S35) : ∀ (pre : List S35) (a : Int) (fr : Bool), 0 ≤ a → a ≤ words → (pre ++ suf).length ≤ 100000 →
    ∃ b, Ev (fun k => chain_May.l0 k words a fr (pre ++ suf) ((pre ++ suf).length : Int) (pre.length : Int)) b ∧ (b = true ↔ ChainP words a fr suf) := by
  induction suf with
  | nil =>
    intro pre a fr h0 h1 hl
    refine ⟨a == words, Ev.step (fun k => by rw [chain_May.l0]) (ev_neg (by simp) (Ev.now _)), ?_⟩
    rw [beq_iff_eq]; exact Iff.rfl
  | cons x suf ih =>
    intro pre a fr h0 h1 hl
    have e : pre ++ x :: suf = (pre ++ [x]) ++ suf := by simp
    have hlen2 : ((pre ++ [x]).length : Int) = (pre.length : Int) + 1 := by simp
    have hlt : (pre.length : Int) < ((pre ++ x :: suf).length : Int) := by simp; omega
    have w1 : wrap64 ((pre.length : Int) + 1) = (pre.length : Int) + 1 := w64 (by simp at hl; omega)
    have w2 : wrap64 (words - a) = words - a := w64 (by omega)
    by_cases c1 : x.f0 = a
    · by_cases c2 : 2 ≤ x.f1 ∧ x.f1 ≤ 512
      · by_cases c4 : fr = true ∧ x.f2 = false
        · refine ⟨false, Ev.step (fun k => by rw [chain_May.l0]) ?_, ⟨fun h => (by cases h), fun h => by have := h.2.2.2.2.1 c4.1; rw [c4.2] at this; cases this⟩⟩
          rw [rdt_mid]
          exact ev_pos hlt (ev_pos (by omega) (ev_pos hlt (ev_pos c1 (ev_bindc (bmay_eq _) (ev_pos (by simp [c2]) (ev_pos c4.1 (ev_neg (by rw [c4.2]; decide) (Ev.now _))))))))
        · by_cases c3 : x.f1 > words - a
          · refine ⟨false, Ev.step (fun k => by rw [chain_May.l0]) ?_, ⟨fun h => (by cases h), fun h => by have := h.2.2.2.1; omega⟩⟩
            rw [rdt_mid, w2]
            refine ev_pos hlt (ev_pos (by omega) (ev_pos hlt (ev_pos c1 (ev_bindc (bmay_eq _) (ev_pos (by simp [c2]) ?_)))))
            exact ev_ite (fun _ => ev_ite (fun _ => ev_pos c3 (Ev.now _)) (fun _ => Ev.now _)) (fun _ => ev_pos c3 (Ev.now _))
          · have w3 : wrap64 (a + x.f1) = a + x.f1 := w64 (by omega)
            obtain ⟨b, hb, hi⟩ := ih (pre ++ [x]) (a + x.f1) (!x.f2) (by omega) (by omega) (by rw [← e]; exact hl)
            rw [hlen2, ← e] at hb
            refine ⟨b, Ev.step (fun k => by rw [chain_May.l0]) ?_, ?_⟩
            · rw [rdt_mid, w2, w1, w3]
              refine ev_pos hlt (ev_pos (by omega) (ev_pos hlt (ev_pos c1 (ev_bindc (bmay_eq _) (ev_pos (by simp [c2]) ?_)))))
              refine ev_ite (fun hf => ?_) (fun _ => ev_neg c3 hb)
              refine ev_pos ?_ (ev_neg c3 hb)
              cases hx : x.f2 with
              | true => rfl
              | false => exact absurd ⟨hf, hx⟩ c4
            · rw [hi]
              constructor
              · intro h
                exact ⟨c1, c2.1, c2.2, by omega, fun hf => by
                  cases hx : x.f2 with
                  | true => rfl
                  | false => exact absurd ⟨hf, hx⟩ c4, h⟩
              · exact fun h => h.2.2.2.2.2
      · refine ⟨false, Ev.step (fun k => by rw [chain_May.l0]) ?_, ⟨fun h => (by cases h), fun h => absurd ⟨h.2.1, h.2.2.1⟩ c2⟩⟩
        rw [rdt_mid]
        exact ev_pos hlt (ev_pos (by omega) (ev_pos hlt (ev_pos c1 (ev_bindc (bmay_eq _) (ev_neg (by simp; omega) (Ev.now _))))))
    · refine ⟨false, Ev.step (fun k => by rw [chain_May.l0]) ?_, ⟨fun h => (by cases h), fun h => absurd h.1 c1⟩⟩
      rw [rdt_mid]
      exact ev_pos hlt (ev_pos (by omega) (ev_pos hlt (ev_neg c1 (Ev.now _))))
theorem cmay_ev {l : List S35} (words : Int) (hl : l.length ≤ 100000) : ∃ b, Ev (fun k => chain_May.f k l words) b ∧ (b = true ↔ MayB l words) := by
  unfold chain_May.f
  by_cases h : 8 ≤ words ∧ words ≤ 512 ∧ words % 8 = 0
  · obtain ⟨b, hb, hi⟩ := cmay_l0 (words := words) (by omega) l [] 0 false (by omega) (by omega) hl
    refine ⟨b, ev_bindc (cmayw_eq words) (ev_pos (by simp [h]) hb), hi.trans ⟨fun hh => ⟨h, hh⟩, fun hh => hh.2⟩⟩
  · exact ⟨false, ev_bindc (cmayw_eq words) (ev_neg (by simpa using h) (Ev.now _)), ⟨fun hh => (by cases hh), fun hh => absurd hh.1 h⟩⟩
theorem cmay_yes {l : List S35} {words : Int} (hl : l.length ≤ 100000) (h : MayB l words) : Ev (fun k => chain_May.f k l words) true := by
  obtain ⟨b, hb, hi⟩ := cmay_ev words hl
  rwa [hi.2 h] at hb
theorem blk_ext {a b : S35} (h0 : a.f0 = b.f0) (h1 : a.f1 = b.f1) (h2 : a.f2 = b.f2) : a = b := by
  cases a; cases b; simp at h0 h1 h2; simp [h0, h1, h2]
theorem parse_eq {w : Int} (h : 0 ≤ w ∧ w ≤ 18446744073709551615) :
    block_Parse.f w = if 2 ≤ w / 2 ∧ w / 2 ≤ 512 then some (w / 2, w % 2 == 1, true) else some (0, false, false) := by
  unfold block_Parse.f block_May.f
  rw [u64_and1 h.1 h.2, w64 (by omega)]
  by_cases h1 : w / 2 > 512
  · rw [if_pos h1, if_neg (by omega)]
  · rw [if_neg h1]
    by_cases h2 : w / 2 ≥ 2
    · rw [if_pos h2, if_pos (by omega)]
      simp only [Option.bind_some]
      rw [if_pos (by simp; omega)]
    · rw [if_neg h2, if_neg (by omega)]; rfl
theorem word_eq (n : Int) (u : Bool) : block_Word.f n u = some (if 2 ≤ n ∧ n ≤ 512 then 2 * n + (if u then 1 else 0) else 0) := by
  unfold block_Word.f block_May.f
  by_cases h : 2 ≤ n ∧ n ≤ 512
  · rw [if_pos (by omega), if_pos h]
    simp only [Option.bind_some]
    rw [if_pos (by simp; omega)]
    have e : IntKind.u64.wrap (IntKind.u64.wrap n * 2) = 2 * n := by rw [u64w, u64w]; omega
    rw [e]
    cases u
    · simp
    · simp only [if_true]; rw [u64_or1 (by omega) (by omega) (by omega)]
  · rw [if_neg h]
    by_cases h2 : n ≥ 2
    · rw [if_pos h2]; simp only [Option.bind_some]; rw [if_neg (by simp; omega)]
    · rw [if_neg h2]; rfl
def Wds (w : List Int) : Prop := w.length ≤ 2000 ∧ ∀ j : Int, 0 ≤ rd w j ∧ rd w j ≤ 18446744073709551615
def ParseP (w : List Int) : Int → List S35 → Prop
  | a, [] => (w.length : Int) ≤ a
  | a, b :: l => a < w.length ∧ b.f0 = a ∧ 2 ≤ rd w a / 2 ∧ rd w a / 2 ≤ 512 ∧ b.f1 = rd w a / 2 ∧ b.f2 = (rd w a % 2 == 1) ∧ ParseP w (a + b.f1) l
theorem parse_one {w : List Int} {l : List S35} : ∀ {a : Int} {m : List S35}, ParseP w a l → ParseP w a m → l = m := by
  induction l with
  | nil =>
    intro a m h h'
    cases m with
    | nil => rfl
    | cons b m => have h1 : (w.length : Int) ≤ a := h; have := h'.1; omega
  | cons b l ih =>
    intro a m h h'
    cases m with
    | nil => have h1 : (w.length : Int) ≤ a := h'; have := h.1; omega
    | cons c m =>
      obtain ⟨a0, a1, a2, a3, a4, a5, a6⟩ := h
      obtain ⟨b0, b1, b2, b3, b4, b5, b6⟩ := h'
      have e : b = c := blk_ext (by rw [a1, b1]) (by rw [a4, b4]) (by rw [a5, b5])
      subst e
      rw [ih a6 b6]
def BlocksP (w : List Int) (r : List S35 × Bool) : Prop :=
  (ParseP w 0 r.1 ∧ MayB r.1 w.length ∧ r.2 = true) ∨ ((∀ l, ParseP w 0 l → ¬ MayB l w.length) ∧ r = ([], false))
theorem blocks_one {w : List Int} {r r' : List S35 × Bool} (h : BlocksP w r) (h' : BlocksP w r') : r = r' := by
  rcases h with ⟨a, b, c⟩ | ⟨a, b⟩
  · rcases h' with ⟨a', b', c'⟩ | ⟨a', b'⟩
    · exact Prod.ext (parse_one a a') (by rw [c, c'])
    · exact absurd b (a' _ a)
  · rcases h' with ⟨a', b', c'⟩ | ⟨a', b'⟩
    · exact absurd b' (a _ a')
    · rw [b, b']
theorem blocks_l0 {w : List Int} (hw : Wds w) (d : Nat) : ∀ (acc : List S35) (a : Int), 0 ≤ a → (w.length : Int) ≤ a + d → a ≤ 3000 → (acc.length : Int) ≤ a →
    ∃ r, Ev (fun k => chain_Blocks.l0 k w acc a) r ∧ ((∃ l, ParseP w a l ∧ MayB (acc ++ l) w.length ∧ r = (acc ++ l, true)) ∨ ((∀ l, ParseP w a l → ¬ MayB (acc ++ l) w.length) ∧ r = ([], false))) := by
  have hlen := hw.1
  have fin : ∀ (acc : List S35) (a : Int), 0 ≤ a → (w.length : Int) ≤ a → a ≤ 3000 → (acc.length : Int) ≤ a →
      ∃ r, Ev (fun k => chain_Blocks.l0 k w acc a) r ∧ ((∃ l, ParseP w a l ∧ MayB (acc ++ l) w.length ∧ r = (acc ++ l, true)) ∨ ((∀ l, ParseP w a l → ¬ MayB (acc ++ l) w.length) ∧ r = ([], false))) := by
    intro acc a h0 h1 h2 h3
    obtain ⟨b, hb, hi⟩ := cmay_ev (l := acc) (w.length : Int) (by omega)
    have pn : ∀ l, ParseP w a l → l = [] := fun l hl => by
      cases l with
      | nil => rfl
      | cons c l => have := hl.1; omega
    cases b with
    | true =>
      refine ⟨(acc, true), Ev.step (fun k => by rw [chain_Blocks.l0]) ?_, Or.inl ⟨[], h1, by rw [List.append_nil]; exact hi.1 rfl, by rw [List.append_nil]⟩⟩
      exact ev_neg (by omega) (ev_bind hb (ev_pos rfl (Ev.now _)))
    | false =>
      refine ⟨([], false), Ev.step (fun k => by rw [chain_Blocks.l0]) ?_, Or.inr ⟨fun l hl hm => ?_, rfl⟩⟩
      · exact ev_neg (by omega) (ev_bind hb (ev_neg (by decide) (Ev.now _)))
      · rw [pn l hl, List.append_nil] at hm
        have := hi.2 hm
        cases this
  induction d with
  | zero => intro acc a h0 h1; exact fin acc a h0 (by omega)
  | succ d ih =>
    intro acc a h0 h1 h2 h3
    by_cases ha : (w.length : Int) ≤ a
    · exact fin acc a h0 ha h2 h3
    · have hr := hw.2 a
      by_cases hp : 2 ≤ rd w a / 2 ∧ rd w a / 2 ≤ 512
      · obtain ⟨r, hb, hi⟩ := ih (acc ++ [(⟨a, rd w a / 2, rd w a % 2 == 1⟩ : S35)]) (a + rd w a / 2) (by omega) (by omega) (by omega) (by simp; omega)
        refine ⟨r, Ev.step (fun k => by rw [chain_Blocks.l0]) ?_, ?_⟩
        · rw [parse_eq hr, if_pos hp]
          refine ev_pos (by omega) (ev_pos h0 (ev_bindc rfl ?_))
          refine ev_pos rfl (ev_pos (by omega) ?_)
          rw [w64 (n := a + rd w a / 2) (by omega)]
          exact hb
        · rcases hi with ⟨l, q1, q2, q3⟩ | ⟨q1, q2⟩
          · refine Or.inl ⟨(⟨a, rd w a / 2, rd w a % 2 == 1⟩ : S35) :: l, ⟨by omega, rfl, hp.1, hp.2, rfl, rfl, q1⟩, ?_, ?_⟩
            · rw [List.append_assoc] at q2; exact q2
            · rw [q3, List.append_assoc]; rfl
          · refine Or.inr ⟨fun l hl => ?_, q2⟩
            cases l with
            | nil => have hl : (w.length : Int) ≤ a := hl; omega
            | cons b l =>
              obtain ⟨b0, b1, b2, b3, b4, b5, b6⟩ := hl
              have e : b = (⟨a, rd w a / 2, rd w a % 2 == 1⟩ : S35) := blk_ext b1 b4 b5
              rw [b4] at b6
              have := q1 l b6
              rw [List.append_assoc] at this
              rw [e]; exact this
      · refine ⟨([], false), Ev.step (fun k => by rw [chain_Blocks.l0]) ?_, Or.inr ⟨fun l hl => ?_, rfl⟩⟩
        · rw [parse_eq hr, if_neg hp]
          exact ev_pos (by omega) (ev_pos h0 (ev_bindc rfl (ev_neg (by decide) (Ev.now _))))
        · cases l with
          | nil => have hl : (w.length : Int) ≤ a := hl; omega
          | cons b l => exact absurd ⟨hl.2.2.1, hl.2.2.2.1⟩ hp
theorem blocks_ev {w : List Int} (hw : Wds w) : ∃ r, Ev (fun k => chain_Blocks.f k w) r ∧ BlocksP w r := by
  have hlen := hw.1
  obtain ⟨r, h1, h2⟩ := blocks_l0 hw w.length [] 0 (by omega) (by omega) (by omega) (by simp)
  refine ⟨r, h1, ?_⟩
  rcases h2 with ⟨l, a, b, c⟩ | ⟨a, b⟩
  · rw [c]; exact Or.inl ⟨a, b, rfl⟩
  · exact Or.inr ⟨a, b⟩
theorem blocks_yes {w : List Int} {l : List S35} (hw : Wds w) (hp : ParseP w 0 l) (hm : MayB l w.length) : Ev (fun k => chain_Blocks.f k w) (l, true) := by
  obtain ⟨r, h1, h2⟩ := blocks_ev hw
  have := blocks_one h2 (Or.inl ⟨hp, hm, rfl⟩ : BlocksP w (l, true))
  rwa [this] at h1
def headOf (b : S35) : Int := 2 * b.f1 + (if b.f2 = true then 1 else 0)
theorem head_r (b : S35) : (headOf b / 2 = b.f1) ∧ ((headOf b % 2 == 1) = b.f2) := by
  unfold headOf
  cases b.f2
  · rw [if_neg (by decide)]; exact ⟨by omega, by rw [beq_eq_false_iff_ne]; omega⟩
  · rw [if_pos rfl]; exact ⟨by omega, by rw [beq_iff_eq]; omega⟩
theorem parse_of {w : List Int} {l : List S35} : ∀ {a : Int} {fr : Bool}, ChainP w.length a fr l → (∀ b ∈ l, rd w b.f0 = headOf b) → ParseP w a l := by
  induction l with
  | nil => intro a fr h _; have h : a = w.length := h; show (w.length : Int) ≤ a; omega
  | cons b l ih =>
    intro a fr h hh
    obtain ⟨h0, h1, h2, h3, h4, h5⟩ := h
    have hb := hh b (by simp)
    rw [h0] at hb
    have hr := head_r b
    exact ⟨by omega, h0, by rw [hb, hr.1]; exact h1, by rw [hb, hr.1]; exact h2, by rw [hb, hr.1], by rw [hb, hr.2], ih h5 (fun c hc => hh c (by simp [hc]))⟩
theorem first_eq (n : Int) : chain_First.f n = some (if MayW n then (List.replicate n.toNat 0).set 0 (2 * n) else []) := by
  unfold chain_First.f
  rw [cmayw_eq]
  simp only [Option.bind_some]
  by_cases h : 8 ≤ n ∧ n ≤ 512 ∧ n % 8 = 0
  · rw [if_pos (by simp [h]), if_pos (by omega), if_pos (by omega), if_pos (show MayW n from h), word_eq, if_pos (by omega)]
    simp only [Option.bind_some]
    rw [if_pos (by simp; omega)]
    simp
  · rw [if_neg (by simpa using h), if_neg (show ¬ MayW n from h)]
def sumS : List S35 → Int
  | [] => 0
  | b :: l => b.f1 + sumS l
theorem chain_app {words : Int} (suf : List S35) (pre : List S35) : ∀ {a : Int} {fr : Bool}, ChainP words a fr (pre ++ suf) → ∃ fr', ChainP words (a + sumS pre) fr' suf := by
  induction pre with
  | nil => intro a fr h; exact ⟨fr, by show ChainP words (a + 0) fr suf; rw [Int.add_zero]; exact h⟩
  | cons b pre ih =>
    intro a fr h
    obtain ⟨c0, c1, c2, c3, c4, c5⟩ := h
    obtain ⟨fr', h'⟩ := ih c5
    refine ⟨fr', ?_⟩
    show ChainP words (a + (b.f1 + sumS pre)) fr' suf
    rw [← Int.add_assoc]; exact h'
theorem chain_total {words : Int} (l : List S35) {a : Int} {fr : Bool} (h : ChainP words a fr l) : words = a + sumS l := by
  obtain ⟨fr', h'⟩ := chain_app [] l (by rw [List.append_nil]; exact h)
  have h' : a + sumS l = words := h'
  omega
theorem rd_set {t : List Int} {i : Nat} (v j : Int) (hi : i < t.length) : rd (t.set i v) j = if j.toNat = i then v else rd t j := by
  unfold rd
  rw [List.getD_eq_getElem?_getD, List.getElem?_set, List.getD_eq_getElem?_getD]
  by_cases h : i = j.toNat
  · rw [if_pos h, if_pos (by omega), if_pos h.symm]; rfl
  · rw [if_neg h, if_neg (fun e => h e.symm)]
theorem rd_rep (n : Nat) (j : Int) : rd (List.replicate n 0) j = 0 := by
  unfold rd
  rw [List.getD_eq_getElem?_getD, List.getElem?_replicate]
  by_cases h : j.toNat < n
  · rw [if_pos h]; rfl
  · rw [if_neg h]; rfl
theorem wds_set {v : List Int} {i : Nat} {x : Int} (hv : Wds v) (h0 : 0 ≤ x) (h1 : x ≤ 18446744073709551615) : Wds (v.set i x) := by
  refine ⟨by rw [List.length_set]; exact hv.1, fun j => ?_⟩
  by_cases hi : i < v.length
  · rw [rd_set x j hi]
    by_cases h : j.toNat = i
    · rw [if_pos h]; exact ⟨h0, h1⟩
    · rw [if_neg h]; exact hv.2 j
  · rw [List.set_eq_of_length_le (by omega)]; exact hv.2 j
def lastFr : Bool → List S35 → Bool
  | fr, [] => fr
  | _, b :: l => lastFr (!b.f2) l
theorem sumS_app (P R : List S35) : sumS (P ++ R) = sumS P + sumS R := by
  induction P with
  | nil => show sumS R = 0 + sumS R; omega
  | cons b P ih => show b.f1 + sumS (P ++ R) = (b.f1 + sumS P) + sumS R; rw [ih]; omega
theorem chain_snd {words : Int} (P R : List S35) : ∀ {a : Int} {fr : Bool}, ChainP words a fr (P ++ R) → ChainP words (a + sumS P) (lastFr fr P) R := by
  induction P with
  | nil => intro a fr h; show ChainP words (a + 0) fr R; rw [Int.add_zero]; exact h
  | cons b P ih =>
    intro a fr h
    obtain ⟨h0, h1, h2, h3, h4, h5⟩ := h
    have := ih h5
    show ChainP words (a + (b.f1 + sumS P)) (lastFr (!b.f2) P) R
    rw [← Int.add_assoc]; exact this
theorem chain_re {words : Int} (P R R' : List S35) : ∀ {a : Int} {fr : Bool}, ChainP words a fr (P ++ R) → ChainP words (a + sumS P) (lastFr fr P) R' → ChainP words a fr (P ++ R') := by
  induction P with
  | nil => intro a fr _ h; have h : ChainP words (a + 0) fr R' := h; rw [Int.add_zero] at h; exact h
  | cons b P ih =>
    intro a fr h h'
    obtain ⟨h0, h1, h2, h3, h4, h5⟩ := h
    have h' : ChainP words (a + (b.f1 + sumS P)) (lastFr (!b.f2) P) R' := h'
    rw [← Int.add_assoc] at h'
    exact ⟨h0, h1, h2, h3, h4, ih h5 h'⟩
theorem chain_fr {words : Int} {Q : List S35} {a : Int} {fr : Bool} (fr2 : Bool) (h : ChainP words a fr Q) (hq : ∀ q Q', Q = q :: Q' → q.f2 = true) : ChainP words a fr2 Q := by
  cases Q with
  | nil => exact h
  | cons q Q =>
    obtain ⟨h0, h1, h2, h3, h4, h5⟩ := h
    exact ⟨h0, h1, h2, h3, fun _ => hq q Q rfl, h5⟩
def IsB (l : List S35) : Prop := MayB l (sumS l)
theorem isb_of {l : List S35} {w : Int} (h : MayB l w) : w = sumS l := by have := chain_total l h.2; omega
-- sums of sizes, as the program and the reference count them
-- which blocks become one
-- sums of sizes, as the program and the reference count them
theorem cwords_l0 (l : List S35) (hl : l.length ≤ 100000) (suf : List S35) : ∀ pre : List S35, l = pre ++ suf → (∀ b ∈ pre, 2 ≤ b.f1 ∧ b.f1 ≤ 512) → 0 ≤ sumS pre → sumS pre ≤ 1024 →
    ∃ t, Ev (fun k => carve_words.l0 k (sumS pre) l (l.length : Int) (pre.length : Int)) t ∧ ((∃ w, MayB l w) → t = sumS l) ∧ (t = sumS l ∨ t = 0) ∧ ((∀ b ∈ l, 2 ≤ b.f1 ∧ b.f1 ≤ 512) → sumS l ≤ 512 → t = sumS l) := by
  induction suf with
  | nil =>
    intro pre e hp h0 h1
    rw [List.append_nil] at e
    subst e
    exact ⟨sumS l, Ev.step (fun k => by rw [carve_words.l0]) (ev_neg (by simp) (Ev.now _)), fun _ => rfl, .inl rfl, fun _ _ => rfl⟩
  | cons x suf ih =>
    intro pre e hp h0 h1
    have hlt : (pre.length : Int) < (l.length : Int) := by rw [e]; simp; omega
    have ex : rd_T35 l (pre.length : Int) = x := by rw [e]; exact rdt_mid pre suf x
    by_cases c1 : 2 ≤ x.f1 ∧ x.f1 ≤ 512
    · by_cases c2 : sumS pre > 512
      · have big : (∀ b ∈ l, 2 ≤ b.f1 ∧ b.f1 ≤ 512) → ¬ sumS l ≤ 512 := by
          intro hb hs
          rw [e, sumS_app] at hs
          have : ∀ m : List S35, (∀ b ∈ m, 2 ≤ b.f1 ∧ b.f1 ≤ 512) → 0 ≤ sumS m := by
            intro m
            induction m with
            | nil => intro _; exact Int.le_refl _
            | cons c m ihm => intro hc; have q1 := hc c List.mem_cons_self; have q2 := ihm (fun d hd => hc d (List.mem_cons_of_mem _ hd)); show 0 ≤ c.f1 + sumS m; omega
          have q := this (x :: suf) (fun b hb' => hb b (by rw [e]; exact List.mem_append_right _ hb'))
          omega
        refine ⟨0, Ev.step (fun k => by rw [carve_words.l0]) ?_, fun ⟨w, hw⟩ => ?_, .inr rfl, fun hb hs => absurd hs (big hb)⟩
        · rw [ex]
          exact ev_pos hlt (ev_pos (by omega) (ev_pos hlt (ev_bindc (bmay_eq _) (ev_pos (by simp [c1]) (ev_pos c2 (Ev.now _))))))
        · have ht := chain_total l hw.2
          have hw1 := hw.1
          unfold MayW at hw1
          exact absurd (by omega : sumS l ≤ 512) (big (fun b hb => ⟨(chain_mem hw.2 b hb).2.1, (chain_mem hw.2 b hb).2.2.1⟩))
      · obtain ⟨t, ht, hi⟩ := ih (pre ++ [x]) (by rw [e]; simp) (by
          intro b hb
          rcases List.mem_append.1 hb with hb | hb
          · exact hp b hb
          · rw [List.mem_singleton.1 hb]; exact c1) (by rw [sumS_app]; show 0 ≤ sumS pre + (x.f1 + 0); omega) (by rw [sumS_app]; show sumS pre + (x.f1 + 0) ≤ 1024; omega)
        have es : sumS (pre ++ [x]) = sumS pre + x.f1 := by rw [sumS_app]; show sumS pre + (x.f1 + 0) = _; omega
        refine ⟨t, Ev.step (fun k => by rw [carve_words.l0]) ?_, hi⟩
        rw [ex, w64 (n := sumS pre + x.f1) (by omega), w64 (n := (pre.length : Int) + 1) (by omega)]
        refine ev_pos hlt (ev_pos (by omega) (ev_pos hlt (ev_bindc (bmay_eq _) (ev_pos (by simp [c1]) (ev_neg c2 ?_)))))
        rw [es] at ht
        simpa using ht
    · refine ⟨0, Ev.step (fun k => by rw [carve_words.l0]) ?_, fun ⟨w, hw⟩ => ?_, .inr rfl, fun hb _ => absurd (hb x (by rw [e]; simp)) c1⟩
      · rw [ex]
        exact ev_pos hlt (ev_pos (by omega) (ev_pos hlt (ev_bindc (bmay_eq _) (ev_neg (by simp; omega) (Ev.now _)))))
      · have := chain_mem hw.2 x (by rw [e]; simp)
        omega
theorem cwords_ev {l : List S35} (hl : l.length ≤ 100000) : ∃ t, Ev (fun k => carve_words.f k l) t ∧ ((∃ w, MayB l w) → t = sumS l) ∧ (t = sumS l ∨ t = 0) ∧ ((∀ b ∈ l, 2 ≤ b.f1 ∧ b.f1 ≤ 512) → sumS l ≤ 512 → t = sumS l) :=
  cwords_l0 l hl l [] rfl (fun b hb => nomatch hb) (Int.le_refl _) (by show (0 : Int) ≤ 1024; omega)
def tk (s need : Int) : Int := if need < 2 ∨ need > s then 0 else if s - need < 2 then s else need
theorem takes_ev {s n : Int} (hs : 2 ≤ s ∧ s ≤ 512) : Ev (fun k => fit_Takes.f k s n) (tk s n) := by
  unfold fit_Takes.f tk
  by_cases c : n < 2
  · rw [if_pos (.inl c)]
    refine ev_pos c (Ev.step (fun k => by rw [fit_Takes.j0]) (ev_pos rfl (Ev.now _)))
  · refine ev_neg c ?_
    by_cases d : n > s
    · rw [if_pos (.inr d), decide_eq_true d]
      exact Ev.step (fun k => by rw [fit_Takes.j0]) (ev_pos rfl (Ev.now _))
    · rw [if_neg (by omega), decide_eq_false d]
      refine Ev.step (fun k => by rw [fit_Takes.j0]) (ev_neg (by decide) ?_)
      rw [w64 (n := s - n) (by omega)]
      refine ev_ite (fun e => ?_) (fun e => ?_)
      · rw [if_pos e]; exact Ev.now _
      · rw [if_neg e]; exact Ev.now _
theorem tk_r {s n : Int} (h : tk s n ≠ 0) (hs : 2 ≤ s) : 2 ≤ tk s n ∧ tk s n ≤ s ∧ (tk s n < s → 2 ≤ s - tk s n) ∧ 2 ≤ n ∧ n ≤ tk s n := by
  unfold tk at h ⊢
  split at h
  · exact absurd rfl h
  · rename_i c
    rw [if_neg c]
    split <;> omega
theorem tk_zero {s n : Int} (hs : 2 ≤ s) : tk s n = 0 ↔ (n < 2 ∨ n > s) := by
  unfold tk
  split
  · rename_i c; exact ⟨fun _ => c, fun _ => rfl⟩
  · rename_i c
    split
    · exact ⟨fun h => by omega, fun h => absurd h c⟩
    · exact ⟨fun h => by omega, fun h => absurd h c⟩
def CanC (l : List S35) (i need : Int) : Prop := IsB l ∧ 0 ≤ i ∧ i < l.length ∧ (rd_T35 l i).f2 = false ∧ tk (rd_T35 l i).f1 need ≠ 0
def tkn (b : S35) (need : Int) : List S35 := ⟨b.f0, tk b.f1 need, true⟩ :: (if tk b.f1 need < b.f1 then [⟨b.f0 + tk b.f1 need, b.f1 - tk b.f1 need, false⟩] else [])
def crv (l : List S35) (i need : Int) : List S35 := l.take i.toNat ++ tkn (rd_T35 l i) need ++ l.drop (i.toNat + 1)
theorem isb_rd {l : List S35} {i : Int} (h : IsB l) (h0 : 0 ≤ i) (h1 : i < l.length) : 0 ≤ (rd_T35 l i).f0 ∧ 2 ≤ (rd_T35 l i).f1 ∧ (rd_T35 l i).f1 ≤ 512 ∧ (rd_T35 l i).f0 + (rd_T35 l i).f1 ≤ 512 := by
  have := chain_rd h.2 h0 h1
  have hw := h.1
  unfold MayW at hw
  omega
theorem taken_yes {l : List S35} {i need : Int} (hl : l.length ≤ 100000) (h : CanC l i need) : Ev (fun k => carve_taken.f k l i need) (tkn (rd_T35 l i) need) := by
  obtain ⟨h1, h2, h3, h4, h5⟩ := h
  have hr := isb_rd h1 h2 h3
  have ht := tk_r h5 hr.2.1
  unfold carve_taken.f
  obtain ⟨t, hw, hi, _⟩ := cwords_ev hl
  rw [hi ⟨_, h1⟩] at hw
  refine ev_bind hw (ev_bind (cmay_yes hl h1) (ev_pos rfl (ev_neg (by omega) (ev_neg (by omega) (ev_pos h2 (ev_pos h3 ?_))))))
  rw [h4]
  refine Ev.step (fun k => by rw [carve_taken.j0]) ?_
  refine ev_neg (by decide) (ev_pos h2 (ev_pos h3 (ev_bind (takes_ev ⟨by omega, by omega⟩) (ev_neg h5 (ev_bindc rfl ?_)))))
  rw [w64 (n := (rd_T35 l i).f0 + tk (rd_T35 l i).f1 need) (by omega), w64 (n := (rd_T35 l i).f1 - tk (rd_T35 l i).f1 need) (by omega)]
  unfold tkn
  refine ev_ite (fun c => ev_pos (by simp) ?_) (fun c => ?_)
  · rw [if_pos c]; exact Ev.now _
  · rw [if_neg c]; exact Ev.now _
def hWord (n : Int) (u : Bool) : Int := if 2 ≤ n ∧ n ≤ 512 then 2 * n + (if u then 1 else 0) else 0
def noughts (a k : Int) : Nat → List S30
  | 0 => []
  | n + 1 => ⟨a + k, 0⟩ :: noughts a (k + 1) n
theorem noughts_len (a : Int) (n : Nat) : ∀ k, (noughts a k n).length = n := by
  induction n with
  | zero => intro k; rfl
  | succ n ih => intro k; show (noughts a (k + 1) n).length + 1 = n + 1; rw [ih]
def eds (b : S35) (need : Int) : List S30 :=
  ⟨b.f0, hWord (tk b.f1 need) true⟩ :: (noughts b.f0 1 (tk b.f1 need - 1).toNat ++ (if tk b.f1 need < b.f1 then [⟨b.f0 + tk b.f1 need, hWord (b.f1 - tk b.f1 need) false⟩] else []))
theorem eds_l1 (l : List S35) (n b0 b1 : Int) (r : List S30) (u : Bool) (hb : 0 ≤ b0 ∧ b0 ≤ 1000 ∧ b1 ≤ 1000) (d : Nat) : ∀ (acc : List S30) (k : Int), 0 ≤ k → k + d = b1 → u = true → acc.length + d ≤ 100000 →
    Ev (fun j => carve_Edits.l0 j (acc ++ noughts b0 k d) l (l.length : Int) (wrap64 (n + 1))) r →
    Ev (fun j => carve_Edits.l1 j acc k l (l.length : Int) n b0 b1 u) r := by
  induction d with
  | zero =>
    intro acc k h0 h1 hu hl hg
    refine Ev.step (fun j => by rw [carve_Edits.l1]) ?_
    refine ev_neg (by omega) ?_
    have e : acc ++ noughts b0 k 0 = acc := List.append_nil _
    rwa [e] at hg
  | succ d ih =>
    intro acc k h0 h1 hu hl hg
    refine Ev.step (fun j => by rw [carve_Edits.l1]) ?_
    refine ev_pos (by omega) (ev_pos hu (ev_pos (by omega) ?_))
    rw [w64 (n := b0 + k) (by omega), w64 (n := k + 1) (by omega)]
    refine ih (acc ++ [⟨b0 + k, 0⟩]) (k + 1) (by omega) (by omega) hu (by simp; omega) ?_
    have e : acc ++ noughts b0 k (d + 1) = acc ++ [⟨b0 + k, 0⟩] ++ noughts b0 (k + 1) d := by
      show acc ++ (⟨b0 + k, 0⟩ :: noughts b0 (k + 1) d) = _
      simp
    rwa [e] at hg
theorem cedits_yes {l : List S35} {i need : Int} (hl : l.length ≤ 1000) (h : CanC l i need) : Ev (fun k => carve_Edits.f k l i need) (eds (rd_T35 l i) need) := by
  have hr := isb_rd h.1 h.2.1 h.2.2.1
  have ht := tk_r h.2.2.2.2 hr.2.1
  unfold carve_Edits.f
  refine ev_bind (taken_yes (by omega) h) ?_
  generalize hb : rd_T35 l i = b at hr ht
  unfold tkn eds
  generalize tk b.f1 need = t at ht
  by_cases c : t < b.f1
  · rw [if_pos c, if_pos c]
    have hL : (([⟨b.f0, t, true⟩, ⟨b.f0 + t, b.f1 - t, false⟩] : List S35).length : Int) = 2 := rfl
    refine Ev.step (fun j => by rw [carve_Edits.l0]) ?_
    refine ev_pos (by simp) (ev_pos (by decide) (ev_pos (by simp) ?_))
    rw [show rd_T35 ([⟨b.f0, t, true⟩, ⟨b.f0 + t, b.f1 - t, false⟩] : List S35) 0 = ⟨b.f0, t, true⟩ from rfl]
    refine ev_bindc (word_eq t true) (ev_pos (by simp) ?_)
    refine eds_l1 _ 0 b.f0 t _ true ⟨by omega, by omega, by omega⟩ (t - 1).toNat _ 1 (by omega) (by omega) rfl (by simp; omega) ?_
    refine Ev.step (fun j => by rw [carve_Edits.l0]) ?_
    rw [show wrap64 ((0 : Int) + 1) = 1 from w64 (by decide)]
    refine ev_pos (by simp) (ev_pos (by decide) (ev_pos (by simp) ?_))
    rw [show rd_T35 ([⟨b.f0, t, true⟩, ⟨b.f0 + t, b.f1 - t, false⟩] : List S35) 1 = ⟨b.f0 + t, b.f1 - t, false⟩ from rfl]
    refine ev_bindc (word_eq (b.f1 - t) false) (ev_pos (by rw [List.length_append, noughts_len]; simp; omega) ?_)
    refine Ev.step (fun j => by rw [carve_Edits.l1]) ?_
    refine ev_pos (by have := ht.2.2.1 c; dsimp only; omega) (ev_neg (by simp) ?_)
    refine Ev.step (fun j => by rw [carve_Edits.l0]) ?_
    rw [show wrap64 ((1 : Int) + 1) = 2 from w64 (by decide)]
    refine ev_neg (by simp) (ev_now ?_)
    unfold hWord
    simp
  · rw [if_neg c, if_neg c]
    refine Ev.step (fun j => by rw [carve_Edits.l0]) ?_
    refine ev_pos (by simp) (ev_pos (by decide) (ev_pos (by simp) ?_))
    rw [show rd_T35 ([⟨b.f0, t, true⟩] : List S35) 0 = ⟨b.f0, t, true⟩ from rfl]
    refine ev_bindc (word_eq t true) (ev_pos (by simp) ?_)
    refine eds_l1 _ 0 b.f0 t _ true ⟨by omega, by omega, by omega⟩ (t - 1).toNat _ 1 (by omega) (by omega) rfl (by simp; omega) ?_
    refine Ev.step (fun j => by rw [carve_Edits.l0]) ?_
    rw [show wrap64 ((0 : Int) + 1) = 1 from w64 (by decide)]
    refine ev_neg (by simp) (ev_now ?_)
    unfold hWord
    simp
theorem eds_len {b : S35} {need : Int} (h : 2 ≤ tk b.f1 need) : ((eds b need).length : Int) = tk b.f1 need + (if tk b.f1 need < b.f1 then 1 else 0) := by
  unfold eds
  rw [List.length_cons, List.length_append, noughts_len]
  split
  · simp only [List.length_cons, List.length_nil]; omega
  · simp only [List.length_nil]; omega
theorem c_split {l : List S35} {i : Int} (h0 : 0 ≤ i) (h1 : i < l.length) : l = l.take i.toNat ++ rd_T35 l i :: l.drop (i.toNat + 1) := by
  obtain ⟨h, e⟩ := rdt_get h0 h1
  rw [e, ← List.drop_eq_getElem_cons h]
  exact (List.take_append_drop _ _).symm
theorem crv_may {l : List S35} {i need words : Int} (hC : MayB l words) (h : CanC l i need) : MayB (crv l i need) words := by
  obtain ⟨h1, h2, h3, h4, h5⟩ := h
  have hr := isb_rd h1 h2 h3
  have ht := tk_r h5 hr.2.1
  have hc := hC.2
  rw [c_split h2 h3] at hc
  have hs := chain_snd _ _ hc
  obtain ⟨k0, k1, k2, k3, k4, k5⟩ := hs
  rw [h4] at k4 k5
  have hfr : lastFr false (l.take i.toNat) = false := by
    cases hf : lastFr false (l.take i.toNat) with
    | false => rfl
    | true => have := k4 hf; cases this
  have hq : ∀ q Q', l.drop (i.toNat + 1) = q :: Q' → q.f2 = true := by
    intro q Q' e
    rw [e] at k5
    exact k5.2.2.2.2.1 rfl
  refine ⟨hC.1, ?_⟩
  unfold crv
  rw [List.append_assoc]
  refine chain_re _ _ _ hc ?_
  rw [hfr]
  unfold tkn
  split
  · rename_i c
    have := ht.2.2.1 c
    refine ⟨k0, by dsimp only; omega, by dsimp only; omega, by dsimp only; omega, (fun hh => nomatch hh), ?_⟩
    refine ⟨by dsimp only; omega, by dsimp only; omega, by dsimp only; omega, by dsimp only; omega, (fun hh => nomatch hh), ?_⟩
    dsimp only
    have e : 0 + sumS (l.take i.toNat) + tk (rd_T35 l i).f1 need + ((rd_T35 l i).f1 - tk (rd_T35 l i).f1 need) = 0 + sumS (l.take i.toNat) + (rd_T35 l i).f1 := by omega
    rw [e]
    exact k5
  · rename_i c
    have e : tk (rd_T35 l i).f1 need = (rd_T35 l i).f1 := by omega
    refine ⟨k0, by dsimp only; omega, by dsimp only; omega, by dsimp only; omega, (fun hh => nomatch hh), ?_⟩
    dsimp only
    rw [e]
    exact chain_fr _ k5 hq
theorem canc_of {l : List S35} {i need words : Int} (hC : MayB l words) (h0 : 0 ≤ i) (h1 : i < l.length) (hn : 2 ≤ need) : CanC l i need ↔ ((rd_T35 l i).f2 = false ∧ need ≤ (rd_T35 l i).f1) := by
  have hB : IsB l := by unfold IsB; rw [← isb_of hC]; exact hC
  have hr := isb_rd hB h0 h1
  have hz := tk_zero (s := (rd_T35 l i).f1) (n := need) hr.2.1
  constructor
  · rintro ⟨_, _, _, h4, h5⟩
    refine ⟨h4, ?_⟩
    by_cases c : need ≤ (rd_T35 l i).f1
    · exact c
    · exact absurd (hz.2 (by omega)) h5
  · rintro ⟨h4, h5⟩
    exact ⟨hB, h0, h1, h4, fun e => by have := hz.1 e; omega⟩
def app : List Int → List S30 → List Int
  | v, [] => v
  | v, e :: es => app (if 0 ≤ e.f0 ∧ e.f0 < v.length then v.set e.f0.toNat e.f1 else v) es
theorem app_len (es : List S30) : ∀ v, (app v es).length = v.length := by
  induction es with
  | nil => intro v; rfl
  | cons e es ih =>
    intro v
    show (app _ es).length = _
    rw [ih]
    split
    · rw [List.length_set]
    · rfl
theorem app_app (es fs : List S30) : ∀ v, app v (es ++ fs) = app (app v es) fs := by
  induction es with
  | nil => intro v; rfl
  | cons e es ih => intro v; exact ih _
theorem app_wds (es : List S30) : ∀ v, Wds v → (∀ e ∈ es, 0 ≤ e.f1 ∧ e.f1 ≤ 18446744073709551615) → Wds (app v es) := by
  induction es with
  | nil => intro v h _; exact h
  | cons e es ih =>
    intro v h he
    refine ih _ ?_ (fun x hx => he x (List.mem_cons_of_mem _ hx))
    have := he e List.mem_cons_self
    split
    · exact wds_set h this.1 this.2
    · exact h
theorem rde_mid (pre suf : List S30) (x : S30) : rd_T30 (pre ++ x :: suf) (pre.length : Int) = x := by
  unfold rd_T30
  rw [List.getD_eq_getElem?_getD, Int.toNat_natCast, List.getElem?_append_right (by omega)]
  simp
theorem apply_l0 (es : List S30) (hl : es.length ≤ 100000) (suf : List S30) : ∀ (pre : List S30) (v : List Int), es = pre ++ suf → Ev (fun k => darningref4_Apply.l0 k v es (es.length : Int) (pre.length : Int)) (app v suf) := by
  induction suf with
  | nil =>
    intro pre v he
    refine Ev.step (fun k => by rw [darningref4_Apply.l0]) ?_
    exact ev_neg (by rw [he]; simp) (Ev.now _)
  | cons x suf ih =>
    intro pre v he
    have hlt : (pre.length : Int) < (es.length : Int) := by rw [he]; simp; omega
    have em : rd_T30 es (pre.length : Int) = x := by rw [he]; exact rde_mid pre suf x
    have w1 : wrap64 ((pre.length : Int) + 1) = ((pre ++ [x]).length : Int) := by rw [w64 (by omega)]; simp
    have go := fun v' => ih (pre ++ [x]) v' (by rw [he]; simp)
    refine Ev.step (fun k => by rw [darningref4_Apply.l0]) ?_
    rw [em, w1]
    refine ev_pos hlt (ev_pos (by omega) (ev_pos hlt (ev_ite (fun c => ev_ite (fun d => ev_pos c ?_) (fun d => ?_)) (fun c => ?_))))
    · have := go (v.set x.f0.toNat x.f1)
      show Ev _ (app (if 0 ≤ x.f0 ∧ x.f0 < v.length then v.set x.f0.toNat x.f1 else v) suf)
      rw [if_pos ⟨c, d⟩]
      exact this
    · show Ev _ (app (if 0 ≤ x.f0 ∧ x.f0 < v.length then v.set x.f0.toNat x.f1 else v) suf)
      rw [if_neg (fun h => d h.2)]
      exact go v
    · show Ev _ (app (if 0 ≤ x.f0 ∧ x.f0 < v.length then v.set x.f0.toNat x.f1 else v) suf)
      rw [if_neg (fun h => c h.1)]
      exact go v
theorem apply_ev {v : List Int} {es : List S30} (hv : v.length ≤ 100000) (hl : es.length ≤ 100000) : Ev (fun k => darningref4_Apply.f k v es) (app v es) := by
  unfold darningref4_Apply.f
  refine ev_pos (by simp only [List.length_nil]; omega) ?_
  rw [List.nil_append]
  exact apply_l0 es hl es [] v rfl
theorem app_nou (a : Int) (n : Nat) (ha : 0 ≤ a) : ∀ (v : List Int) (k j : Int), 0 ≤ k → a + k + n ≤ v.length → 0 ≤ j → rd (app v (noughts a k n)) j = if a + k ≤ j ∧ j < a + k + n then 0 else rd v j := by
  induction n with
  | zero => intro v k j h0 h1 h2; rw [if_neg (by omega)]; rfl
  | succ n ih =>
    intro v k j h0 h1 h2
    show rd (app (if 0 ≤ a + k ∧ a + k < v.length then v.set (a + k).toNat 0 else v) (noughts a (k + 1) n)) j = _
    rw [if_pos (by omega), ih _ (k + 1) j (by omega) (by rw [List.length_set]; omega) h2, rd_set _ _ (by omega)]
    by_cases c : j = a + k
    · rw [if_neg (by omega), if_pos (by omega), if_pos (by omega)]
    · rw [if_neg (show ¬ j.toNat = (a + k).toNat by omega)]
      by_cases d : a + (k + 1) ≤ j ∧ j < a + (k + 1) + n
      · rw [if_pos d, if_pos (by omega)]
      · rw [if_neg d, if_neg (by omega)]
theorem nou_mem {a : Int} {n : Nat} : ∀ {k : Int} {e : S30}, e ∈ noughts a k n → e.f1 = 0 := by
  induction n with
  | zero => intro k e h; cases h
  | succ n ih =>
    intro k e h
    rcases List.mem_cons.1 h with h | h
    · rw [h]
    · exact ih h
theorem hw_of {n : Int} {u : Bool} (h : 2 ≤ n ∧ n ≤ 512) : hWord n u = 2 * n + (if u = true then 1 else 0) := by
  unfold hWord
  rw [if_pos h]
theorem eds_rd {v : List Int} {b : S35} {need : Int} (hb : 0 ≤ b.f0) (hv : b.f0 + b.f1 ≤ v.length) (h2 : 2 ≤ tk b.f1 need) (ht : tk b.f1 need ≤ b.f1) {j : Int} (h0 : 0 ≤ j) :
    rd (app v (eds b need)) j = if j = b.f0 + tk b.f1 need ∧ tk b.f1 need < b.f1 then hWord (b.f1 - tk b.f1 need) false else if b.f0 < j ∧ j < b.f0 + tk b.f1 need then 0 else if j = b.f0 then hWord (tk b.f1 need) true else rd v j := by
  unfold eds
  show rd (app (if 0 ≤ b.f0 ∧ b.f0 < v.length then v.set b.f0.toNat (hWord (tk b.f1 need) true) else v) _) j = _
  rw [if_pos (by omega), app_app]
  have hn : ∀ i : Int, 0 ≤ i → rd (app (v.set b.f0.toNat (hWord (tk b.f1 need) true)) (noughts b.f0 1 (tk b.f1 need - 1).toNat)) i = if b.f0 < i ∧ i < b.f0 + tk b.f1 need then 0 else if i = b.f0 then hWord (tk b.f1 need) true else rd v i := by
    intro i hi
    rw [app_nou b.f0 _ hb _ 1 i (by omega) (by rw [List.length_set]; omega) hi, rd_set _ _ (by omega)]
    by_cases c : b.f0 < i ∧ i < b.f0 + tk b.f1 need
    · rw [if_pos c, if_pos (by omega)]
    · rw [if_neg c, if_neg (by omega)]
      by_cases d : i = b.f0
      · rw [if_pos d, if_pos (by omega)]
      · rw [if_neg d, if_neg (by omega)]
  by_cases c : tk b.f1 need < b.f1
  · rw [if_pos c]
    show rd (if 0 ≤ b.f0 + tk b.f1 need ∧ b.f0 + tk b.f1 need < _ then (app (v.set b.f0.toNat (hWord (tk b.f1 need) true)) (noughts b.f0 1 (tk b.f1 need - 1).toNat)).set (b.f0 + tk b.f1 need).toNat (hWord (b.f1 - tk b.f1 need) false) else _) j = _
    rw [if_pos (by rw [app_len, List.length_set]; omega), rd_set _ _ (by rw [app_len, List.length_set]; omega)]
    by_cases d : j = b.f0 + tk b.f1 need
    · rw [if_pos (by omega), if_pos ⟨d, c⟩]
    · rw [if_neg (by omega), if_neg (fun h => d h.1), hn j h0]
  · rw [if_neg c, if_neg (fun h => c h.2)]
    exact hn j h0
theorem eds_wds (b : S35) (need : Int) : ∀ e ∈ eds b need, 0 ≤ e.f1 ∧ e.f1 ≤ 18446744073709551615 := by
  have hh : ∀ (n : Int) (u : Bool), 0 ≤ hWord n u ∧ hWord n u ≤ 18446744073709551615 := by
    intro n u
    unfold hWord
    split
    · split <;> omega
    · omega
  intro e he
  unfold eds at he
  rcases List.mem_cons.1 he with he | he
  · rw [he]; exact hh _ _
  · rcases List.mem_append.1 he with he | he
    · rw [nou_mem he]; omega
    · split at he
      · rw [List.mem_singleton.1 he]; exact hh _ _
      · cases he
theorem crv_heads {l : List S35} {i need words : Int} {v : List Int} (hC : MayB l words) (h : CanC l i need) (hv : (v.length : Int) = words) (hH : ∀ b ∈ l, rd v b.f0 = headOf b) : ∀ b ∈ crv l i need, rd (app v (eds (rd_T35 l i) need)) b.f0 = headOf b := by
  obtain ⟨h1, h2, h3, h4, h5⟩ := h
  have hr := isb_rd h1 h2 h3
  have ht := tk_r h5 hr.2.1
  have hrw := chain_rd hC.2 h2 h3
  have hw := hC.1
  unfold MayW at hw
  have hup := chain_up hC.2
  have hl := c_split h2 h3
  have hlm : ∀ b ∈ l.take i.toNat, b ∈ l := fun b hb => List.mem_of_mem_take hb
  have hdm : ∀ b ∈ l.drop (i.toNat + 1), b ∈ l := fun b hb => List.mem_of_mem_drop hb
  rw [hl] at hup
  rw [List.pairwise_append] at hup
  intro b hb
  have rdv := fun (j : Int) (j0 : 0 ≤ j) => eds_rd (v := v) (b := rd_T35 l i) (need := need) hr.1 (by omega) ht.1 ht.2.1 j0
  unfold crv at hb
  rcases List.mem_append.1 hb with hb | hb
  · rcases List.mem_append.1 hb with hb | hb
    · have hx := hup.2.2 b hb _ List.mem_cons_self
      have hm := chain_mem hC.2 b (hlm b hb)
      rw [rdv b.f0 (by omega), if_neg (by omega), if_neg (by omega), if_neg (by omega)]
      exact hH b (hlm b hb)
    · unfold tkn at hb
      rcases List.mem_cons.1 hb with hb | hb
      · rw [hb]
        dsimp only
        rw [rdv _ (by omega), if_neg (by omega), if_neg (by omega), if_pos rfl, hw_of (by omega)]
        rfl
      · split at hb
        · rename_i c
          have := ht.2.2.1 c
          rw [List.mem_singleton.1 hb]
          dsimp only
          rw [rdv _ (by omega), if_pos ⟨rfl, c⟩, hw_of (by omega)]
          rfl
        · cases hb
  · have hx := (List.pairwise_cons.1 hup.2.1).1 b hb
    have hm := chain_mem hC.2 b (hdm b hb)
    rw [rdv b.f0 (by omega), if_neg (by omega), if_neg (by omega), if_neg (by omega)]
    exact hH b (hdm b hb)
def Wf (l : List S35) : Prop := l.length ≤ 1000 ∧ ∀ j : Int, -9223372036854775808 ≤ (rd_T35 l j).f0 ∧ (rd_T35 l j).f0 ≤ 9223372036854775807 ∧ -9223372036854775808 ≤ (rd_T35 l j).f1 ∧ (rd_T35 l j).f1 ≤ 9223372036854775807
def OkB (l : List S35) (need j : Int) : Prop := (rd_T35 l j).f2 = false ∧ need ≤ (rd_T35 l j).f1
structure FitsP (l : List S35) (need i : Int) (out : List Int) : Prop where
  ok : ∀ x ∈ out, 0 ≤ x ∧ x < i ∧ OkB l need x ∧ ∀ j : Int, 0 ≤ j → j < i → OkB l need j → (rd_T35 l x).f1 ≤ (rd_T35 l j).f1
  all : ∀ x : Int, 0 ≤ x → x < i → OkB l need x → (∀ j : Int, 0 ≤ j → j < i → OkB l need j → (rd_T35 l x).f1 ≤ (rd_T35 l j).f1) → x ∈ out
  none : out = [] → ∀ j : Int, 0 ≤ j → j < i → ¬ OkB l need j
  len : (out.length : Int) ≤ i
  up : out.Pairwise (· < ·)
theorem FitsP.zero (l : List S35) (need : Int) : FitsP l need 0 [] :=
  ⟨fun x h => absurd h (by simp), fun x h0 h1 => by omega, fun _ j h0 h1 => by omega, by simp, List.Pairwise.nil⟩
theorem FitsP.skip {l : List S35} {need i : Int} {out : List Int} (h : FitsP l need i out) (hn : ¬ OkB l need i) : FitsP l need (i + 1) out := by
  have hj : ∀ j : Int, j < i + 1 → OkB l need j → j < i := fun j h1 h2 => by
    by_cases e : j = i
    · subst e; exact absurd h2 hn
    · omega
  refine ⟨fun x hx => ?_, fun x h0 h1 h2 h3 => ?_, fun h0 j h1 h2 h3 => ?_, by have := h.len; omega, h.up⟩
  · obtain ⟨a, b, c, d⟩ := h.ok x hx
    exact ⟨a, by omega, c, fun j h0 h1 h2 => d j h0 (hj j h1 h2) h2⟩
  · exact h.all x h0 (hj x h1 h2) h2 (fun j h4 h5 h6 => h3 j h4 (by omega) h6)
  · exact h.none h0 j h1 (hj j h2 h3) h3
theorem FitsP.first {l : List S35} {need i : Int} (hi : 0 ≤ i) (h : FitsP l need i []) (ho : OkB l need i) : FitsP l need (i + 1) [i] := by
  have hj : ∀ j : Int, 0 ≤ j → j < i + 1 → OkB l need j → j = i := fun j h0 h1 h2 => by
    by_cases e : j = i
    · exact e
    · exact absurd h2 (h.none rfl j h0 (by omega))
  refine ⟨fun x hx => ?_, fun x h0 h1 h2 h3 => ?_, fun h0 => by simp at h0, by simp; omega, by simp⟩
  · have hx := List.mem_singleton.1 hx
    subst hx
    exact ⟨hi, by omega, ho, fun j h0 h1 h2 => by rw [hj j h0 h1 h2]; exact Int.le_refl _⟩
  · rw [hj x h0 h1 h2]; simp
theorem FitsP.head {l : List S35} {need i : Int} {a : Int} {out : List Int} (h : FitsP l need i (a :: out)) : 0 ≤ a ∧ a < i ∧ OkB l need a ∧ ∀ x ∈ a :: out, (rd_T35 l x).f1 = (rd_T35 l a).f1 := by
  obtain ⟨h0, h1, h2, h3⟩ := h.ok a (by simp)
  refine ⟨h0, h1, h2, fun x hx => ?_⟩
  obtain ⟨g0, g1, g2, g3⟩ := h.ok x hx
  have := h3 x g0 g1 g2
  have := g3 a h0 h1 h2
  omega
theorem FitsP.less {l : List S35} {need i : Int} {a : Int} {out : List Int} (h : FitsP l need i (a :: out)) (ho : OkB l need i) (hs : (rd_T35 l i).f1 < (rd_T35 l a).f1) : FitsP l need (i + 1) [i] := by
  obtain ⟨h0, h1, h2, h3⟩ := h.ok a (by simp)
  refine ⟨fun x hx => ?_, fun x g0 g1 g2 g3 => ?_, fun h0 => by simp at h0, by simp; omega, by simp⟩
  · have hx := List.mem_singleton.1 hx
    subst hx
    refine ⟨by omega, by omega, ho, fun j g0 g1 g2 => ?_⟩
    by_cases e : j = x
    · subst e; exact Int.le_refl _
    · have := h3 j g0 (by omega) g2; omega
  · by_cases e : x = i
    · subst e; simp
    · exfalso
      have := h3 x g0 (by omega) g2
      have := g3 i (by omega) (by omega) ho
      omega
theorem FitsP.same {l : List S35} {need i : Int} {a : Int} {out : List Int} (h : FitsP l need i (a :: out)) (ho : OkB l need i) (hs : (rd_T35 l i).f1 = (rd_T35 l a).f1) : FitsP l need (i + 1) ((a :: out) ++ [i]) := by
  obtain ⟨h0, h1, h2, h3⟩ := h.ok a (by simp)
  have hh := h.head.2.2.2
  refine ⟨fun x hx => ?_, fun x g0 g1 g2 g3 => ?_, fun h0 => by simp at h0, by have := h.len; simp at this ⊢; omega, ?_⟩
  · have key : ∀ j : Int, 0 ≤ j → j < i + 1 → OkB l need j → (rd_T35 l a).f1 ≤ (rd_T35 l j).f1 := fun j g0 g1 g2 => by
      by_cases e : j = i
      · subst e; omega
      · exact h3 j g0 (by omega) g2
    rcases List.mem_append.1 hx with hx | hx
    · obtain ⟨k0, k1, k2, _⟩ := h.ok x hx
      exact ⟨k0, by omega, k2, fun j g0 g1 g2 => by rw [hh x hx]; exact key j g0 g1 g2⟩
    · have hx := List.mem_singleton.1 hx
      subst hx
      exact ⟨by omega, by omega, ho, fun j g0 g1 g2 => by rw [hs]; exact key j g0 g1 g2⟩
  · by_cases e : x = i
    · subst e; simp
    · exact List.mem_append_left _ (h.all x g0 (by omega) g2 (fun j k0 k1 k2 => g3 j k0 (by omega) k2))
  · refine List.pairwise_append.2 ⟨h.up, by simp, fun x hx y hy => ?_⟩
    have hy := List.mem_singleton.1 hy
    subst hy
    exact (h.ok x hx).2.1
theorem FitsP.more {l : List S35} {need i : Int} {a : Int} {out : List Int} (h : FitsP l need i (a :: out)) (hs : (rd_T35 l a).f1 < (rd_T35 l i).f1) : FitsP l need (i + 1) (a :: out) := by
  obtain ⟨h0, h1, h2, h3⟩ := h.ok a (by simp)
  have hh := h.head.2.2.2
  refine ⟨fun x hx => ?_, fun x g0 g1 g2 g3 => ?_, fun h0 => by simp at h0, by have := h.len; omega, h.up⟩
  · obtain ⟨k0, k1, k2, k3⟩ := h.ok x hx
    refine ⟨k0, by omega, k2, fun j g0 g1 g2 => ?_⟩
    by_cases e : j = i
    · subst e; have := hh x hx; omega
    · exact k3 j g0 (by omega) g2
  · by_cases e : x = i
    · subst e
      have := g3 a h0 (by omega) h2
      omega
    · exact h.all x g0 (by omega) g2 (fun j k0 k1 k2 => g3 j k0 (by omega) k2)
theorem rd_head (a : Int) (out : List Int) : rd (a :: out) 0 = a := rfl
theorem fits_l0 {l : List S35} {need : Int} (hl : Wf l) (hn : 2 ≤ need) (d : Nat) : ∀ (i : Int) (out : List Int), 0 ≤ i → i + d = l.length → FitsP l need i out →
    ∃ r, Ev (fun k => fit_Fits.l0 k l need out l (l.length : Int) i) r ∧ FitsP l need l.length r := by
  have hlen := hl.1
  induction d with
  | zero =>
    intro i out h0 hd h
    have e : i = (l.length : Int) := by omega
    subst e
    exact ⟨out, Ev.step (fun k => by rw [fit_Fits.l0]) (ev_neg (by omega) (Ev.now _)), h⟩
  | succ d ih =>
    intro i out h0 hd h
    have hlt : i < (l.length : Int) := by omega
    have hol := h.len
    by_cases ho : OkB l need i
    · have enter : ∀ r, Ev (fun k => fit_Fits.j1 k l need out i l (l.length : Int) i false ((rd_T35 l i).f0) ((rd_T35 l i).f1) ((rd_T35 l i).f2)) r → Ev (fun k => fit_Fits.l0 k l need out l (l.length : Int) i) r := by
        intro r hr
        refine Ev.step (fun k => by rw [fit_Fits.l0]) ?_
        refine ev_pos hlt (ev_pos h0 (ev_pos hlt (ev_neg (by omega) (ev_neg (by rw [ho.1]; decide) ?_))))
        rw [decide_eq_false (by have := ho.2; omega)]
        exact hr
      cases out with
      | nil =>
        obtain ⟨r, hr, hp⟩ := ih (i + 1) [i] (by omega) (by omega) (h.first h0 ho)
        refine ⟨r, enter r ?_, hp⟩
        refine Ev.step (fun k => by rw [fit_Fits.j1]) (ev_neg (by decide) (ev_neg (by decide) ?_))
        refine Ev.step (fun k => by rw [fit_Fits.j2]) (ev_neg (by decide) (ev_pos (by decide) (ev_pos (by decide) ?_)))
        rw [w64 (n := i + 1) (by omega)]
        exact hr
      | cons a out =>
        obtain ⟨a0, a1, a2, a3⟩ := h.head
        have go : ∀ r (b : Bool), b = decide ((rd_T35 l i).f1 < (rd_T35 l a).f1) → Ev (fun k => fit_Fits.j2 k l need (a :: out) i l (l.length : Int) i b ((rd_T35 l i).f0) ((rd_T35 l i).f1) ((rd_T35 l i).f2)) r →
            Ev (fun k => fit_Fits.j1 k l need (a :: out) i l (l.length : Int) i false ((rd_T35 l i).f0) ((rd_T35 l i).f1) ((rd_T35 l i).f2)) r := by
          intro r b hb hr
          refine Ev.step (fun k => by rw [fit_Fits.j1]) (ev_neg (by decide) (ev_pos (by simp) (ev_pos (by simp) ?_)))
          rw [rd_head]
          refine ev_pos a0 (ev_pos (by omega) ?_)
          rw [← hb]
          exact hr
        by_cases c1 : (rd_T35 l i).f1 < (rd_T35 l a).f1
        · obtain ⟨r, hr, hp⟩ := ih (i + 1) [i] (by omega) (by omega) (h.less ho c1)
          refine ⟨r, enter r (go r true (by rw [decide_eq_true c1]) ?_), hp⟩
          refine Ev.step (fun k => by rw [fit_Fits.j2]) (ev_pos rfl (ev_pos (by decide) ?_))
          rw [w64 (n := i + 1) (by omega)]
          exact hr
        · by_cases c2 : (rd_T35 l i).f1 = (rd_T35 l a).f1
          · obtain ⟨r, hr, hp⟩ := ih (i + 1) ((a :: out) ++ [i]) (by omega) (by omega) (h.same ho c2)
            refine ⟨r, enter r (go r false (by rw [decide_eq_false c1]) ?_), hp⟩
            refine Ev.step (fun k => by rw [fit_Fits.j2]) (ev_neg (by decide) (ev_neg (by simp; omega) (ev_pos (by simp) ?_)))
            rw [rd_head, w64 (n := i + 1) (by omega)]
            refine ev_pos a0 (ev_pos (by omega) (ev_pos c2 (ev_pos (by omega) hr)))
          · obtain ⟨r, hr, hp⟩ := ih (i + 1) (a :: out) (by omega) (by omega) (h.more (by omega))
            refine ⟨r, enter r (go r false (by rw [decide_eq_false c1]) ?_), hp⟩
            refine Ev.step (fun k => by rw [fit_Fits.j2]) (ev_neg (by decide) (ev_neg (by simp; omega) (ev_pos (by simp) ?_)))
            rw [rd_head, w64 (n := i + 1) (by omega)]
            exact ev_pos a0 (ev_pos (by omega) (ev_neg c2 hr))
    · obtain ⟨r, hr, hp⟩ := ih (i + 1) out (by omega) (by omega) (h.skip ho)
      refine ⟨r, Ev.step (fun k => by rw [fit_Fits.l0]) ?_, hp⟩
      have j1 : Ev (fun k => fit_Fits.j1 k l need out i l (l.length : Int) i true ((rd_T35 l i).f0) ((rd_T35 l i).f1) ((rd_T35 l i).f2)) r := by
        refine Ev.step (fun k => by rw [fit_Fits.j1]) (ev_pos rfl ?_)
        rw [w64 (n := i + 1) (by omega)]
        exact hr
      refine ev_pos hlt (ev_pos h0 (ev_pos hlt (ev_neg (by omega) ?_)))
      refine ev_ite (fun _ => j1) (fun c => ?_)
      rw [decide_eq_true (show (rd_T35 l i).f1 < need from by
        have : ¬ (need ≤ (rd_T35 l i).f1) := fun hh => ho ⟨by simpa using c, hh⟩
        omega)]
      exact j1
theorem fits_ev {l : List S35} {need : Int} (hl : Wf l) (hn : 2 ≤ need) : ∃ r, Ev (fun k => fit_Fits.f k l need) r ∧ FitsP l need l.length r :=
  fits_l0 hl hn l.length 0 [] (by omega) (by omega) (FitsP.zero l need)
def cntS (at_ : Int) (counts : List Int) : Int := if at_ < 0 ∨ (counts.length : Int) ≤ at_ / 32 then 0 else rd counts (at_ / 32)
theorem count_eq {a b : Int} {c : Bool} {counts : List Int} (h1 : a ≤ 9223372036854775807) : fit_count.f a b c counts = some (cntS a counts) := by
  unfold fit_count.f cntS
  by_cases h : a < 0
  · rw [if_pos h, if_pos (Or.inl h)]
  · rw [if_neg h, tdivp (by omega), w64 (n := a / 32) (by omega)]
    by_cases h2 : a / 32 ≥ (counts.length : Int)
    · rw [if_pos h2, if_pos (Or.inr h2)]
    · rw [if_neg h2, if_pos (by omega), if_pos (by omega), if_neg (by omega)]
def Leq (l : List S35) (counts : List Int) (x y : Int) : Prop :=
  cntS (rd_T35 l x).f0 counts < cntS (rd_T35 l y).f0 counts ∨ (cntS (rd_T35 l x).f0 counts = cntS (rd_T35 l y).f0 counts ∧ (rd_T35 l x).f0 ≤ (rd_T35 l y).f0)
def ChooseP (l : List S35) (counts out : List Int) (c : Int) : Prop := (out = [] ∧ c = -1) ∨ (c ∈ out ∧ ∀ y ∈ out, Leq l counts c y)
theorem rd_mid (pre suf : List Int) (x : Int) : rd (pre ++ x :: suf) (pre.length : Int) = x := by
  unfold rd
  rw [List.getD_eq_getElem?_getD, Int.toNat_natCast, List.getElem?_append_right (by omega)]
  simp
theorem choose_l0 {l : List S35} {counts : List Int} (hl : Wf l) (suf : List Int) : ∀ (pre : List Int) (best : Int), (∀ x ∈ pre ++ suf, 0 ≤ x ∧ x < l.length) → (pre ++ suf).length ≤ 1000 → ChooseP l counts pre best →
    ∃ r, Ev (fun k => fit_Choose.l0 k l counts best (pre ++ suf) ((pre ++ suf).length : Int) (pre.length : Int)) r ∧ ChooseP l counts (pre ++ suf) r := by
  induction suf with
  | nil =>
    intro pre best hr hlen h
    refine ⟨best, Ev.step (fun k => by rw [fit_Choose.l0]) (ev_neg (by simp) (Ev.now _)), by simpa using h⟩
  | cons x suf ih =>
    intro pre best hr hlen h
    have hx := hr x (by simp)
    have e : pre ++ x :: suf = (pre ++ [x]) ++ suf := by simp
    have hlen2 : ((pre ++ [x]).length : Int) = (pre.length : Int) + 1 := by simp
    have hlt : (pre.length : Int) < ((pre ++ x :: suf).length : Int) := by simp; omega
    have next : ∀ b, ChooseP l counts (pre ++ [x]) b → ∃ r, Ev (fun k => fit_Choose.l0 k l counts b (pre ++ x :: suf) ((pre ++ x :: suf).length : Int) ((pre.length : Int) + 1)) r ∧ ChooseP l counts (pre ++ x :: suf) r := by
      intro b hb
      have := ih (pre ++ [x]) b (by rw [← e]; exact hr) (by rw [← e]; exact hlen) hb
      rw [hlen2, ← e] at this
      exact this
    have w1 : wrap64 ((pre.length : Int) + 1) = (pre.length : Int) + 1 := w64 (by simp at hlen; omega)
    rcases h with ⟨rfl, rfl⟩ | ⟨hm, hall⟩
    · obtain ⟨r, h1, h2⟩ := next x (Or.inr ⟨by simp, fun y hy => by simp at hy; subst hy; exact Or.inr ⟨rfl, Int.le_refl _⟩⟩)
      refine ⟨r, Ev.step (fun k => by rw [fit_Choose.l0]) ?_, h2⟩
      rw [rd_mid, w1]
      exact ev_pos hlt (ev_pos (by omega) (ev_pos hlt (ev_pos (by omega) h1)))
    · have hb := hr best (by simp [hm])
      have fx := hl.2 x
      have fb := hl.2 best
      have cx := count_eq (b := (rd_T35 l x).f1) (c := (rd_T35 l x).f2) (counts := counts) fx.2.1
      have cb := count_eq (b := (rd_T35 l best).f1) (c := (rd_T35 l best).f2) (counts := counts) fb.2.1
      by_cases c1 : cntS (rd_T35 l x).f0 counts < cntS (rd_T35 l best).f0 counts ∨ (cntS (rd_T35 l x).f0 counts = cntS (rd_T35 l best).f0 counts ∧ (rd_T35 l x).f0 < (rd_T35 l best).f0)
      · obtain ⟨r, h1, h2⟩ := next x (Or.inr ⟨by simp, fun y hy => by
          rcases List.mem_append.1 hy with hy | hy
          · have := hall y hy
            unfold Leq at this ⊢
            omega
          · simp at hy; subst hy; exact Or.inr ⟨rfl, Int.le_refl _⟩⟩)
        refine ⟨r, Ev.step (fun k => by rw [fit_Choose.l0]) ?_, h2⟩
        rw [rd_mid, w1]
        refine ev_pos hlt (ev_pos (by omega) (ev_pos hlt (ev_neg (by omega) (ev_pos hx.1 (ev_pos hx.2 (ev_bindc cx (ev_pos hb.1 (ev_pos hb.2 (ev_bindc cb ?_)))))))))
        rcases c1 with c1 | c1
        · exact ev_pos c1 h1
        · exact ev_neg (by omega) (ev_pos c1.1 (ev_pos c1.2 h1))
      · obtain ⟨r, h1, h2⟩ := next best (Or.inr ⟨by simp [hm], fun y hy => by
          rcases List.mem_append.1 hy with hy | hy
          · exact hall y hy
          · simp at hy; subst hy; unfold Leq; omega⟩)
        refine ⟨r, Ev.step (fun k => by rw [fit_Choose.l0]) ?_, h2⟩
        rw [rd_mid, w1]
        refine ev_pos hlt (ev_pos (by omega) (ev_pos hlt (ev_neg (by omega) (ev_pos hx.1 (ev_pos hx.2 (ev_bindc cx (ev_pos hb.1 (ev_pos hb.2 (ev_bindc cb ?_)))))))))
        refine ev_neg (by omega) ?_
        refine ev_ite (fun c2 => ev_neg (by omega) h1) (fun _ => h1)
theorem choose_ev {l : List S35} {need : Int} {counts : List Int} (hl : Wf l) (hn : 2 ≤ need) : ∃ out r, Ev (fun k => fit_Fits.f k l need) out ∧ FitsP l need l.length out ∧ Ev (fun k => fit_Choose.f k l need counts) r ∧ ChooseP l counts out r := by
  obtain ⟨out, h1, h2⟩ := fits_ev hl hn
  have hlen := hl.1
  obtain ⟨r, h3, h4⟩ := choose_l0 (counts := counts) hl out [] (-1) (fun x hx => by
    have := h2.ok x (by simpa using hx); exact ⟨this.1, this.2.1⟩) (by have := h2.len; simp; omega) (Or.inl ⟨rfl, rfl⟩)
  refine ⟨out, r, h1, h2, ?_, h4⟩
  unfold fit_Choose.f
  exact ev_bind h1 h3
theorem chosen {l : List S35} {need : Int} {counts out : List Int} {c : Int} (hf : FitsP l need l.length out) (hc : ChooseP l counts out c) :
    (c = -1 ∧ out = [] ∧ ∀ j : Int, 0 ≤ j → j < l.length → ¬ OkB l need j) ∨
    (0 ≤ c ∧ c < l.length ∧ OkB l need c ∧ c ∈ out ∧ (∀ y ∈ out, Leq l counts c y) ∧ ∀ j : Int, 0 ≤ j → j < l.length → OkB l need j → (rd_T35 l c).f1 ≤ (rd_T35 l j).f1) := by
  rcases hc with ⟨h1, h2⟩ | ⟨h1, h2⟩
  · exact Or.inl ⟨h2, h1, hf.none h1⟩
  · obtain ⟨a, b, c, d⟩ := hf.ok _ h1
    exact Or.inr ⟨a, b, c, h1, h2, d⟩
def HV (l : List S35) (v : List Int) (words : Int) : Prop := MayB l words ∧ Wds v ∧ (v.length : Int) = words ∧ ∀ b ∈ l, rd v b.f0 = headOf b
theorem hv_blocks {l : List S35} {v : List Int} {words : Int} (h : HV l v words) : Ev (fun k => chain_Blocks.f k v) (l, true) :=
  blocks_yes h.2.1 (parse_of (fr := false) (by rw [h.2.2.1]; exact h.1.2) h.2.2.2) (by rw [h.2.2.1]; exact h.1)
theorem hv_crv {l : List S35} {v : List Int} {words i need : Int} (h : HV l v words) (hc : CanC l i need) : HV (crv l i need) (app v (eds (rd_T35 l i) need)) words :=
  ⟨crv_may h.1 hc, app_wds _ _ h.2.1 (eds_wds _ _), by rw [app_len]; exact h.2.2.1, crv_heads h.1 hc h.2.2.1 h.2.2.2⟩
def needS (n : Int) : Int := if n < 1 ∨ n > 448 then 0 else (n + 7) / 8 + 1
theorem need_eq (n : Int) : fit_Need.f n = some (needS n) := by
  unfold fit_Need.f needS
  by_cases h1 : n < 1
  · rw [if_pos h1, if_pos (.inl h1)]
  · by_cases h2 : n > 448
    · rw [if_neg h1, if_pos h2, if_pos (.inr h2)]
    · rw [if_neg h1, if_neg h2, if_neg (by omega), w64 (n := n + 7) (by omega), tdivp (by omega), w64 (n := (n + 7) / 8) (by omega), w64 (by omega)]
theorem need_r (n : Int) : needS n = 0 ∨ (2 ≤ needS n ∧ needS n ≤ 57) := by
  unfold needS
  split
  · exact .inl rfl
  · right; omega
theorem offv_in {a : Int} (h : 0 ≤ a ∧ a ≤ 512) : offV a = (a + 1) * 8 := by
  unfold offV
  rw [if_neg (by omega), if_neg (by omega), w64 (n := a + 1) (by omega), w64 (by omega)]
theorem wf_may {l : List S35} {words : Int} (h : MayB l words) (hl : l.length ≤ 1000) : Wf l := by
  refine ⟨hl, fun j => ?_⟩
  have hw := h.1
  unfold MayW at hw
  have e : rd_T35 l j = rd_T35 l (j.toNat : Int) := by unfold rd_T35; rw [Int.toNat_natCast]
  rw [e]
  by_cases hj : j.toNat < l.length
  · have := chain_rd h.2 (j := (j.toNat : Int)) (by omega) (by omega)
    omega
  · unfold rd_T35
    rw [List.getD_eq_getElem?_getD, Int.toNat_natCast, List.getElem?_eq_none (by omega)]
    exact ⟨by decide, by decide, by decide, by decide⟩
theorem ialloc_ev {l : List S35} {v : List Int} {words n : Int} {counts : List Int} (hV : HV l v words) (hl : l.length ≤ 1000) :
    ∃ r, Ev (fun k => image_Alloc.f k v n counts) r ∧ ((needS n = 0 ∧ r = ([], 0, 1)) ∨ (needS n ≠ 0 ∧ (∀ j : Int, 0 ≤ j → j < l.length → ¬ OkB l (needS n) j) ∧ r = ([], 0, 4)) ∨
      (needS n ≠ 0 ∧ ∃ c, CanC l c (needS n) ∧ r = (eds (rd_T35 l c) (needS n), ((rd_T35 l c).f0 + 1) * 8, 0))) := by
  unfold image_Alloc.f
  by_cases hz : needS n = 0
  · exact ⟨([], 0, 1), ev_bindc (need_eq n) (ev_pos hz (Ev.now _)), .inl ⟨hz, rfl⟩⟩
  · have hn : 2 ≤ needS n := by have := need_r n; omega
    obtain ⟨out, c, _, h2, h3, h4⟩ := choose_ev (need := needS n) (counts := counts) (wf_may hV.1 hl) hn
    rcases chosen h2 h4 with ⟨hc, _, hno⟩ | ⟨c0, c1, hok, _⟩
    · exact ⟨_, ev_bindc (need_eq n) (ev_neg hz (ev_bind (hv_blocks hV) (ev_pos rfl (ev_bind h3 (ev_pos (by omega) (Ev.now _)))))), .inr (.inl ⟨hz, hno, rfl⟩)⟩
    · have can := (canc_of hV.1 c0 c1 hn).2 hok
      have hr := isb_rd can.1 c0 c1
      refine ⟨_, ev_bindc (need_eq n) (ev_neg hz (ev_bind (hv_blocks hV) (ev_pos rfl (ev_bind h3 (ev_neg (by omega) (ev_bind (cedits_yes hl can) (ev_pos c0 (ev_pos c1 (ev_bindc (off_v _ _ _) (Ev.now _)))))))))), .inr (.inr ⟨hz, c, can, ?_⟩)⟩
      rw [offv_in (by dsimp only; omega)]
theorem find_none (off : Int) (l : List S35) : ∀ i : Nat, (∀ b ∈ l, b.f2 = true → offV b.f0 ≠ off) → findS off l i = -1 := by
  induction l with
  | nil => intro i _; rfl
  | cons y l ih =>
    intro i h
    show (if (y.f2 && decide (offV y.f0 = off)) = true then (i : Int) else findS off l (i + 1)) = _
    rw [if_neg, ih (i + 1) (fun b hb => h b (List.mem_cons_of_mem _ hb))]
    have := h y List.mem_cons_self
    simp only [Bool.and_eq_true, decide_eq_true_eq]
    exact fun hh => this hh.1 hh.2
theorem find_ev {l : List S35} {v : List Int} {words : Int} (hV : HV l v words) (off : Int) : Ev (fun k => image_find.f k v off) (l, findS off l 0) := by
  unfold image_find.f
  exact ev_bind (hv_blocks hV) (Ev.now _)
theorem awake_ev : Ev (fun k => darninglaw19_awake.f k) true := Ev.of (fun k => darninglaw19_awake.mono k) (k := 60) (by decide +kernel)
theorem rneed_eq (n : Int) : darningref4_Need.f n = some (needS n) := by
  unfold darningref4_Need.f needS
  by_cases h1 : n < 1
  · rw [if_pos h1, if_pos (.inl h1)]
  · by_cases h2 : n > 448
    · rw [if_neg h1, if_pos h2, if_pos (.inr h2)]
    · rw [if_neg h1, if_neg h2, if_neg (by omega), w64 (n := n + 7) (by omega), tdivp (by omega), w64 (n := (n + 7) / 8) (by omega), w64 (by omega)]
      congr 1
      omega
theorem hv_first {W : Int} (hM : MayW W) : HV [(⟨0, W, false⟩ : S35)] ((List.replicate W.toNat 0).set 0 (2 * W)) W := by
  unfold MayW at hM
  have hlen : (((List.replicate W.toNat (0 : Int)).set 0 (2 * W)).length : Int) = W := by rw [List.length_set, List.length_replicate]; omega
  refine ⟨⟨hM, rfl, by dsimp only; omega, by dsimp only; omega, by dsimp only; omega, fun h => (by cases h), ?_⟩, ⟨by omega, fun j => ?_⟩, hlen, fun b hb => ?_⟩
  · show 0 + W = W
    omega
  · rw [rd_set _ _ (by rw [List.length_replicate]; omega), rd_rep]
    split <;> omega
  · rw [List.mem_singleton.1 hb]
    dsimp only
    rw [rd_set _ _ (by rw [List.length_replicate]; omega), if_pos (show (0 : Int).toNat = 0 from rfl)]
    unfold headOf
    simp
theorem al0 {W n : Int} {v : List Int} (hW : 8 ≤ W ∧ W ≤ 512) (hn : 1 ≤ n ∧ n ≤ 30) (hV : HV [(⟨0, W, false⟩ : S35)] v W) :
    ∃ e, Ev (fun k => image_Alloc.f k v n ([] : List Int)) (e, 8, 0) ∧ HV [(⟨0, needS n, true⟩ : S35), ⟨needS n, W - needS n, false⟩] (app v e) W ∧ e.length ≤ 1000 := by
  have hN : needS n = (n + 7) / 8 + 1 := by unfold needS; rw [if_neg (by omega)]
  obtain ⟨r, hr, hc⟩ := ialloc_ev (n := n) (counts := []) hV (by simp)
  rcases hc with ⟨h, _⟩ | ⟨_, h, _⟩ | ⟨_, c, can, e⟩
  · omega
  · exact absurd ⟨rfl, by show needS n ≤ W; omega⟩ (h 0 (by omega) (by simp))
  · have c0 : c = 0 := by
      have h1 := can.2.1
      have h2 := can.2.2.1
      rw [List.length_singleton] at h2
      omega
    subst c0
    have ht : tk W (needS n) = needS n := by unfold tk; rw [if_neg (by omega), if_neg (by omega)]
    have hel := eds_len (b := (⟨0, W, false⟩ : S35)) (need := needS n) (by show 2 ≤ tk W (needS n); omega)
    have hV2 := hv_crv hV can
    have ec : crv [(⟨0, W, false⟩ : S35)] 0 (needS n) = [⟨0, needS n, true⟩, ⟨needS n, W - needS n, false⟩] := by
      show (⟨0, tk W (needS n), true⟩ : S35) :: (if tk W (needS n) < W then [⟨0 + tk W (needS n), W - tk W (needS n), false⟩] else []) ++ [] = _
      rw [ht, if_pos (by omega), Int.zero_add]
      rfl
    rw [ec] at hV2
    refine ⟨eds ⟨0, W, false⟩ (needS n), by rw [e] at hr; exact hr, hV2, ?_⟩
    dsimp only at hel
    split at hel <;> omega
theorem al1 {W need n : Int} {v : List Int} (hW : 8 ≤ W ∧ W ≤ 512) (hd : 2 ≤ need ∧ need ≤ 5) (hn : 1 ≤ n ∧ n ≤ 30) (hV : HV [(⟨0, need, true⟩ : S35), ⟨need, W - need, false⟩] v W) :
    Ev (fun k => image_Alloc.f k v n ([] : List Int)) ([], 0, 4) ∨ ∃ e t tail, Ev (fun k => image_Alloc.f k v n ([] : List Int)) (e, (need + 1) * 8, 0) ∧ HV ((⟨0, need, true⟩ : S35) :: ⟨need, t, true⟩ :: tail) (app v e) W ∧ needS n ≤ t ∧ need + t ≤ W ∧ (∀ b ∈ tail, b.f2 = false) ∧ e.length ≤ 1000 := by
  have hN : needS n = (n + 7) / 8 + 1 := by unfold needS; rw [if_neg (by omega)]
  obtain ⟨r, hr, hc⟩ := ialloc_ev (n := n) (counts := []) hV (by simp)
  rcases hc with ⟨h, _⟩ | ⟨_, _, h⟩ | ⟨_, c, can, e⟩
  · omega
  · left; rw [h] at hr; exact hr
  · right
    have c1 : c = 1 := by
      have h1 := can.2.1
      have h2 := can.2.2.1
      have h3 := can.2.2.2.1
      simp only [List.length_cons, List.length_nil] at h2
      by_cases c0 : c = 0
      · subst c0
        cases h3
      · omega
    subst c1
    have ht := tk_r can.2.2.2.2 (by show 2 ≤ W - need; have := isb_rd can.1 can.2.1 can.2.2.1; exact this.2.1)
    have hel := eds_len (b := (⟨need, W - need, false⟩ : S35)) (need := needS n) ht.1
    have hV2 := hv_crv hV can
    have ec : crv [(⟨0, need, true⟩ : S35), ⟨need, W - need, false⟩] 1 (needS n) = ⟨0, need, true⟩ :: ⟨need, tk (W - need) (needS n), true⟩ :: ((if tk (W - need) (needS n) < W - need then [(⟨need + tk (W - need) (needS n), W - need - tk (W - need) (needS n), false⟩ : S35)] else []) ++ []) := rfl
    rw [ec] at hV2
    have ht2 : 2 ≤ tk (W - need) (needS n) ∧ tk (W - need) (needS n) ≤ W - need ∧ needS n ≤ tk (W - need) (needS n) := ⟨ht.1, ht.2.1, ht.2.2.2.2⟩
    refine ⟨eds ⟨need, W - need, false⟩ (needS n), _, _, by rw [e] at hr; exact hr, hV2, ht2.2.2, by omega, ?_, ?_⟩
    · intro b hb
      rw [List.append_nil] at hb
      split at hb
      · rw [List.mem_singleton.1 hb]
      · cases hb
    · dsimp only at hel
      split at hel <;> omega
theorem holds_one {o n a s : Int} (ha : 0 ≤ a ∧ 0 ≤ s ∧ a + s ≤ 512) (hn : 0 ≤ n ∧ n ≤ 448) : holdsB o n (⟨a, s, true⟩ : S35) = decide ((a + 1) * 8 ≤ o ∧ o ≤ (a + s) * 8 - n) := by
  unfold holdsB
  rw [offv_in (by dsimp only; omega)]
  dsimp only
  rw [w64 (n := a + s) (by omega), w64 (n := (a + s) * 8) (by omega), w64 (n := (a + s) * 8 - n) (by omega), Bool.true_and, ← Bool.decide_and]
theorem holds_ev {l : List S35} {v : List Int} {words o n : Int} (hV : HV l v words) (hn : 0 ≤ n ∧ n ≤ 448) : Ev (fun k => image_Holds.f k v o n) (l.any (holdsB o n)) := by
  unfold image_Holds.f
  exact ev_neg (by omega) (ev_neg (by omega) (ev_bind (hv_blocks hV) (Ev.now _)))
theorem is_ev {l : List S35} {v : List Int} {words o : Int} (hV : HV l v words) : Ev (fun k => image_Is.f k v o) (decide (findS o l 0 ≥ 0)) := by
  unfold image_Is.f
  exact ev_bind (find_ev hV o) (Ev.now _)
theorem ImageBounds : darninglaw19_ImageBounds.Pure := by
  intro a0 a1 a2 h0 h1 h2
  apply Ev.rounds
  unfold darninglaw19_ImageBounds.f
  rw [modw a0 20 (by omega) (by omega), modw a1 30 (by omega) (by omega), modw a2 30 (by omega) (by omega)]
  have x0 := Int.emod_nonneg (a0 % 18446744073709551616) (b := 20) (by omega)
  have x1 := Int.emod_lt_of_pos (a0 % 18446744073709551616) (b := 20) (by omega)
  have y0 := Int.emod_nonneg (a1 % 18446744073709551616) (b := 30) (by omega)
  have y1 := Int.emod_lt_of_pos (a1 % 18446744073709551616) (b := 30) (by omega)
  have z0 := Int.emod_nonneg (a2 % 18446744073709551616) (b := 30) (by omega)
  have z1 := Int.emod_lt_of_pos (a2 % 18446744073709551616) (b := 30) (by omega)
  generalize a0 % 18446744073709551616 % 20 = p at x0 x1 ⊢
  generalize a1 % 18446744073709551616 % 30 = q at y0 y1 ⊢
  generalize a2 % 18446744073709551616 % 30 = s at z0 z1 ⊢
  rw [w64 (n := 1 + p) (by omega), w64 (n := 8 * (1 + p)) (by omega), w64 (n := 1 + q) (by omega), w64 (n := 1 + s) (by omega)]
  obtain ⟨n, en⟩ : ∃ n, n = 1 + q := ⟨_, rfl⟩
  obtain ⟨m, em⟩ : ∃ m, m = 1 + s := ⟨_, rfl⟩
  obtain ⟨W, eW⟩ : ∃ W, W = 8 * (1 + p) := ⟨_, rfl⟩
  rw [← en, ← em, ← eW]
  have hM : MayW W := by unfold MayW; omega
  have hf : chain_First.f W = some ((List.replicate W.toNat 0).set 0 (2 * W)) := by rw [first_eq, if_pos hM]
  have hV0 := hv_first hM
  obtain ⟨e1, hr1, hV1, hl1⟩ := al0 (n := n) (by omega) (by omega) hV0
  have hN : needS n = (n + 7) / 8 + 1 := by unfold needS; rw [if_neg (by omega)]
  have hN2 : needS m = (m + 7) / 8 + 1 := by unfold needS; rw [if_neg (by omega)]
  have hlen0 := hV0.2.2.1
  have hlen1 := hV1.2.2.1
  have hap1 := apply_ev (v := (List.replicate W.toNat 0).set 0 (2 * W)) (es := e1) (by omega) (by omega)
  refine ev_bindc hf (ev_bind hr1 (ev_bind hap1 ?_))
  dsimp only
  rcases al1 (need := needS n) (n := m) (by omega) (by omega) (by omega) hV1 with hr2 | ⟨e2, t, tail, hr2, hV2, ht1, ht2, htl, hl2⟩
  · have hap2 := apply_ev (v := app ((List.replicate W.toNat 0).set 0 (2 * W)) e1) (es := ([] : List S30)) (by omega) (by simp)
    exact ev_bind hr2 (ev_bind hap2 (ev_pos rfl (ev_neg (by decide) (ev_bind awake_ev (Ev.now _)))))
  · have hap2 := apply_ev (v := app ((List.replicate W.toNat 0).set 0 (2 * W)) e1) (es := e2) (by omega) (by omega)
    refine ev_bind hr2 (ev_bind hap2 (ev_pos rfl (ev_pos rfl (ev_bindc (rneed_eq n) ?_))))
    dsimp only
    generalize hg : needS n = d at *
    generalize app (app ((List.replicate W.toNat 0).set 0 (2 * W)) e1) e2 = v at *
    rw [w64 (n := d - 1) (by omega), w64 (n := (d - 1) * 8) (by omega), w64 (n := 8 + (d - 1) * 8) (by omega), w64 (n := 8 + (d - 1) * 8 + 8) (by omega)]
    refine ev_pos (by omega) ?_
    refine Ev.step (fun k => by rw [darninglaw19_ImageBounds.j0]) ?_
    refine ev_neg (by decide) ?_
    have any : ∀ o n : Int, 0 ≤ n → n ≤ 448 → ((⟨0, d, true⟩ : S35) :: ⟨d, t, true⟩ :: tail).any (holdsB o n) = (decide ((0 + 1) * 8 ≤ o ∧ o ≤ (0 + d) * 8 - n) || decide ((d + 1) * 8 ≤ o ∧ o ≤ (d + t) * 8 - n)) := by
      intro o n n0 n1
      have : tail.any (holdsB o n) = false := by
        rw [List.any_eq_false]
        intro b hb
        unfold holdsB
        rw [htl b hb]
        simp
      rw [List.any_cons, List.any_cons, this, holds_one (by omega) ⟨n0, n1⟩, holds_one (by omega) ⟨n0, n1⟩, Bool.or_false]
    have fnd : ∀ o : Int, findS o ((⟨0, d, true⟩ : S35) :: ⟨d, t, true⟩ :: tail) 0 = if 8 = o then 0 else if (d + 1) * 8 = o then 1 else -1 := by
      intro o
      have h1 : findS o tail (0 + 1 + 1) = -1 := find_none o tail _ (fun b hb hu => by rw [htl b hb] at hu; cases hu)
      show (if (true && decide (offV 0 = o)) = true then ((0 : Nat) : Int) else (if (true && decide (offV d = o)) = true then ((0 + 1 : Nat) : Int) else findS o tail (0 + 1 + 1))) = _
      rw [h1, offv_in (by omega), offv_in (by omega)]
      simp only [Bool.true_and, decide_eq_true_eq]
      rfl
    have hds := fun (o n : Int) (n0 : 0 ≤ n) (n1 : n ≤ 448) => holds_ev (o := o) hV2 ⟨n0, n1⟩
    have his := fun (o : Int) => is_ev (o := o) hV2
    have yes : ∀ o n : Int, 0 ≤ n → n ≤ 448 → ((0 + 1) * 8 ≤ o ∧ o ≤ (0 + d) * 8 - n) ∨ ((d + 1) * 8 ≤ o ∧ o ≤ (d + t) * 8 - n) → Ev (fun k => image_Holds.f k v o n) true := by
      intro o n n0 n1 hh
      have h := hds o n n0 n1
      rw [any o n n0 n1] at h
      rwa [show (decide ((0 + 1) * 8 ≤ o ∧ o ≤ (0 + d) * 8 - n) || decide ((d + 1) * 8 ≤ o ∧ o ≤ (d + t) * 8 - n)) = true from by
        rw [Bool.or_eq_true, decide_eq_true_iff, decide_eq_true_iff]; exact hh] at h
    have no : ∀ o n : Int, 0 ≤ n → n ≤ 448 → ¬ ((0 + 1) * 8 ≤ o ∧ o ≤ (0 + d) * 8 - n) → ¬ ((d + 1) * 8 ≤ o ∧ o ≤ (d + t) * 8 - n) → Ev (fun k => image_Holds.f k v o n) false := by
      intro o n n0 n1 hh hh2
      have h := hds o n n0 n1
      rwa [any o n n0 n1, decide_eq_false hh, decide_eq_false hh2] at h
    have isy : ∀ o : Int, 8 = o ∨ (d + 1) * 8 = o → Ev (fun k => image_Is.f k v o) true := by
      intro o hh
      have h := his o
      rwa [fnd o, decide_eq_true (by split <;> (try split) <;> omega)] at h
    have isn : ∀ o : Int, ¬ 8 = o → ¬ (d + 1) * 8 = o → Ev (fun k => image_Is.f k v o) false := by
      intro o hh hh2
      have h := his o
      rwa [fnd o, if_neg hh, if_neg hh2, decide_eq_false (by omega)] at h
    have hb : darninglaw19_boolInt.f (decide ((d - 1) * 8 > 8)) = some (if (d - 1) * 8 > 8 then 1 else 0) := by
      unfold darninglaw19_boolInt.f
      by_cases c : (d - 1) * 8 > 8
      · rw [if_pos c, if_pos (decide_eq_true c)]
      · rw [if_neg c, if_neg (by simpa using c)]
    rw [w64 (n := 8 - 1) (by omega), w64 (n := (d + 1) * 8 - 8) (by omega), w64 (n := (d + 1) * 8 - 8 - 7) (by omega)]
    refine ev_bind (yes _ _ (by omega) (by omega) (.inl (by omega))) (ev_pos rfl (ev_bind (no _ _ (by omega) (by omega) (by omega) (by omega)) (ev_neg (by decide) (ev_bind (no _ _ (by omega) (by omega) (by omega) (by omega)) (ev_neg (by decide) (ev_bind (no _ _ (by omega) (by omega) (by omega) (by omega)) (ev_neg (by decide) ?_)))))))
    refine ev_bind (yes _ _ (by omega) (by omega) (.inr (by omega))) (ev_pos rfl (ev_bind (isy _ (.inl rfl)) (ev_pos rfl (ev_bind (isy _ (.inr rfl)) (ev_pos rfl (ev_bindc hb ?_))))))
    refine ev_bind (isn _ ?_ ?_) (ev_neg (by decide) (ev_bind (isn _ (by omega) (by omega)) (ev_neg (by decide) (ev_bind awake_ev (Ev.now _)))))
    · split
      · unfold wrap64; omega
      · unfold wrap64; omega
    · split
      · rw [show wrap64 (wrap64 (8 + wrap64 (8 * 1)) + 1) = 17 from by unfold wrap64; omega]; omega
      · rw [show wrap64 (wrap64 (8 + wrap64 (8 * 0)) + 1) = 9 from by unfold wrap64; omega]; omega

end Go.Proofs.Ytglekonhdjploaa.Pure
