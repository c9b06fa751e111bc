/- ImageFills: blocks of one size are taken till there is no room; as many as fit; all freed, it is one free block again. -/
import Derived.Test.YtglekonhdjploabXImageFillsx
namespace Go.Proofs.Ytglekonhdjploab.Pure
open Go.RowKit Go.Proofs.Ytglekonhdjploab.XImageFills Go.Proofs.YtglekonhdjploabW.PrintWords Go.Proofs.YtglekonhdjploabW.PrintLast

theorem u64w (n : Int) : IntKind.u64.wrap n = n % 18446744073709551616 := by simp [IntKind.wrap, IntKind.bits, IntKind.signed]
theorem w64 {n : Int} (h : -9223372036854775808 ≤ n ∧ n ≤ 9223372036854775807) : wrap64 n = n := by unfold wrap64; omega
theorem tmodp {a b : Int} (h : 0 ≤ a) : Int.tmod a b = a % b := Int.tmod_eq_emod_of_nonneg h
theorem tdivp {a b : Int} (h : 0 ≤ a) : Int.tdiv a b = a / b := Int.tdiv_eq_ediv_of_nonneg h
theorem u64_wraps (n : Int) (h₀ : 0 ≤ n) (h₁ : n < 2 ^ 64) : IntKind.u64.wrap n = n := by rw [u64w]; omega
theorem u64_mask (i : Nat) (hi : i ≤ 64) (x : Int) (h₀ : 0 ≤ x) (h₁ : x < 2 ^ 64) : Go.bits .and .u64 x (2 ^ i - 1) = x % 2 ^ i :=
  bits_mask .u64 64 (by decide) u64_wraps i hi x h₀ h₁
theorem u64_and1 {x : Int} (h₀ : 0 ≤ x) (h₁ : x ≤ 18446744073709551615) : Go.bits .and .u64 x 1 = x % 2 := u64_mask 1 (by decide) x h₀ (by omega)
theorem u64_or1 {x : Int} (h₀ : 0 ≤ x) (h₁ : x ≤ 18446744073709551615) (h : x % 2 = 0) : Go.bits .or .u64 x 1 = x + 1 :=
  bits_join .u64 64 (by decide) u64_wraps 1 x 1 h₀ h (by omega) (by decide) (by decide) (by decide)
theorem modw (a m : Int) (h : 0 < m) (hm : m ≤ 1000000) : wrap64 (Int.tmod (IntKind.u64.wrap a) m) = (a % 18446744073709551616) % m := by
  rw [u64w, tmodp (by omega), w64]
  have := Int.emod_nonneg (a % 18446744073709551616) (b := m) (by omega)
  have := Int.emod_lt_of_pos (a % 18446744073709551616) h
  omega
theorem ev_pos {α : Type} {c : Prop} [Decidable c] {a b : Nat → Option α} {r : α} (h : c) (k : Ev a r) : Ev (fun n => if c then a n else b n) r := by
  simp only [if_pos h]; exact k
theorem ev_neg {α : Type} {c : Prop} [Decidable c] {a b : Nat → Option α} {r : α} (h : ¬ c) (k : Ev b r) : Ev (fun n => if c then a n else b n) r := by
  simp only [if_neg h]; exact k
theorem ev_ite {α : Type} {c : Prop} [Decidable c] {a b : Nat → Option α} {r : α} (h1 : c → Ev a r) (h2 : ¬ c → Ev b r) : Ev (fun n => if c then a n else b n) r := by
  by_cases h : c
  · exact ev_pos h (h1 h)
  · exact ev_neg h (h2 h)
theorem ev_bindc {α β : Type} {o : Option α} {f : Nat → α → Option β} {a : α} {r : β} (h : o = some a) (k : Ev (fun n => f n a) r) : Ev (fun n => o.bind (f n)) r := by
  subst h; exact k
theorem ev_bind {α β : Type} {g : Nat → Option α} {f : Nat → α → Option β} {a : α} {r : β} (h : Ev g a) (k : Ev (fun n => f n a) r) : Ev (fun n => (g n).bind (f n)) r := Ev.bind h k
theorem ev_now {α : Type} {r s : α} (h : s = r) : Ev (fun _ => some s) r := by subst h; exact Ev.now _
theorem rdt_mid (pre suf : List S45) (x : S45) : rd_T45 (pre ++ x :: suf) (pre.length : Int) = x := by
  unfold rd_T45
  rw [List.getD_eq_getElem?_getD, Int.toNat_natCast, List.getElem?_append_right (by omega)]
  simp
theorem rdt_get {l : List S45} {j : Int} (h0 : 0 ≤ j) (h1 : j < l.length) : ∃ h : j.toNat < l.length, rd_T45 l j = l[j.toNat]'h := by
  refine ⟨by omega, ?_⟩
  unfold rd_T45
  rw [List.getD_eq_getElem?_getD, List.getElem?_eq_getElem (by omega)]
  rfl
theorem rdt_mem {l : List S45} {j : Int} (h0 : 0 ≤ j) (h1 : j < l.length) : rd_T45 l j ∈ l := by
  obtain ⟨h, e⟩ := rdt_get h0 h1
  rw [e]
  exact List.getElem_mem h
def ChainP (words : Int) : Int → Bool → List S45 → Prop
  | a, _, [] => a = words
  | a, fr, b :: l => b.f0 = a ∧ 2 ≤ b.f1 ∧ b.f1 ≤ 512 ∧ b.f1 ≤ words - a ∧ (fr = true → b.f2 = true) ∧ ChainP words (a + b.f1) (!b.f2) l
def MayW (words : Int) : Prop := 8 ≤ words ∧ words ≤ 512 ∧ words % 8 = 0
instance (words : Int) : Decidable (MayW words) := by unfold MayW; infer_instance
def MayB (l : List S45) (words : Int) : Prop := MayW words ∧ ChainP words 0 false l
theorem chain_mem {words : Int} {l : List S45} : ∀ {a : Int} {fr : Bool}, ChainP words a fr l → ∀ b ∈ l, a ≤ b.f0 ∧ 2 ≤ b.f1 ∧ b.f1 ≤ 512 ∧ b.f0 + b.f1 ≤ words := by
  induction l with
  | nil => exact fun _ b hb => absurd hb (by simp)
  | cons c l ih =>
    intro a fr h b hb
    obtain ⟨h0, h1, h2, h3, h4, h5⟩ := h
    rcases List.mem_cons.1 hb with hb | hb
    · subst hb; omega
    · have := ih h5 b hb; omega
theorem chain_up {words : Int} {l : List S45} : ∀ {a : Int} {fr : Bool}, ChainP words a fr l → l.Pairwise (fun b c => b.f0 + b.f1 ≤ c.f0) := by
  induction l with
  | nil => exact fun _ => List.Pairwise.nil
  | cons c l ih =>
    intro a fr h
    obtain ⟨h0, h1, h2, h3, h4, h5⟩ := h
    refine List.pairwise_cons.2 ⟨fun b hb => ?_, ih h5⟩
    have := chain_mem h5 b hb
    omega
theorem chain_len {words : Int} {l : List S45} : ∀ {a : Int} {fr : Bool}, ChainP words a fr l → a + 2 * l.length ≤ words := by
  induction l with
  | nil => intro a fr h; have : a = words := h; simp; omega
  | cons c l ih =>
    intro a fr h
    obtain ⟨h0, h1, h2, h3, h4, h5⟩ := h
    have := ih h5
    simp; omega
theorem chain_rd {words : Int} {l : List S45} (h : ChainP words 0 false l) {j : Int} (h0 : 0 ≤ j) (h1 : j < l.length) :
    0 ≤ (rd_T45 l j).f0 ∧ 2 ≤ (rd_T45 l j).f1 ∧ (rd_T45 l j).f1 ≤ 512 ∧ (rd_T45 l j).f0 + (rd_T45 l j).f1 ≤ words := chain_mem h _ (rdt_mem h0 h1)
theorem cmayw_eq (n : Int) : chain_mayWords.f n = some (decide (8 ≤ n ∧ n ≤ 512 ∧ n % 8 = 0)) := by
  unfold chain_mayWords.f
  by_cases h1 : n ≥ 8
  · rw [if_pos h1]
    by_cases h2 : n ≤ 512
    · rw [if_pos h2, tmodp (by omega)]
      congr 1
      rw [Bool.eq_iff_iff, beq_iff_eq, decide_eq_true_iff]
      exact ⟨fun h => ⟨h1, h2, h⟩, fun h => h.2.2⟩
    · rw [if_neg h2, decide_eq_false (by omega)]
  · rw [if_neg h1, decide_eq_false (by omega)]
theorem bmay_eq (n : Int) : block_May.f n = some (decide (2 ≤ n ∧ n ≤ 512)) := by
  unfold block_May.f
  by_cases h2 : n ≥ 2
  · rw [if_pos h2]; congr 1; rw [Bool.eq_iff_iff]; simp only [decide_eq_true_iff]; omega
  · rw [if_neg h2, decide_eq_false (by omega)]
theorem cmay_l0 {words : Int} (hw : words ≤ 100000) (suf : List S45) : ∀ (pre : List S45) (a : Int) (fr : Bool), 0 ≤ a → a ≤ words → (pre ++ suf).length ≤ 100000 →
    ∃ b, Ev (fun k => chain_May.l0 k words a fr (pre ++ suf) ((pre ++ suf).length : Int) (pre.length : Int)) b ∧ (b = true ↔ ChainP words a fr suf) := by
  induction suf with
  | nil =>
    intro pre a fr h0 h1 hl
    refine ⟨a == words, Ev.step (fun k => by rw [chain_May.l0]) (ev_neg (by simp) (Ev.now _)), ?_⟩
    rw [beq_iff_eq]; exact Iff.rfl
  | cons x suf ih =>
    intro pre a fr h0 h1 hl
    have e : pre ++ x :: suf = (pre ++ [x]) ++ suf := by simp
    have hlen2 : ((pre ++ [x]).length : Int) = (pre.length : Int) + 1 := by simp
    have hlt : (pre.length : Int) < ((pre ++ x :: suf).length : Int) := by simp; omega
    have w1 : wrap64 ((pre.length : Int) + 1) = (pre.length : Int) + 1 := w64 (by simp at hl; omega)
    have w2 : wrap64 (words - a) = words - a := w64 (by omega)
    by_cases c1 : x.f0 = a
    · by_cases c2 : 2 ≤ x.f1 ∧ x.f1 ≤ 512
      · by_cases c4 : fr = true ∧ x.f2 = false
        · refine ⟨false, Ev.step (fun k => by rw [chain_May.l0]) ?_, ⟨fun h => (by cases h), fun h => by have := h.2.2.2.2.1 c4.1; rw [c4.2] at this; cases this⟩⟩
          rw [rdt_mid]
          exact ev_pos hlt (ev_pos (by omega) (ev_pos hlt (ev_pos c1 (ev_bindc (bmay_eq _) (ev_pos (by simp [c2]) (ev_pos c4.1 (ev_neg (by rw [c4.2]; decide) (Ev.now _))))))))
        · by_cases c3 : x.f1 > words - a
          · refine ⟨false, Ev.step (fun k => by rw [chain_May.l0]) ?_, ⟨fun h => (by cases h), fun h => by have := h.2.2.2.1; omega⟩⟩
            rw [rdt_mid, w2]
            refine ev_pos hlt (ev_pos (by omega) (ev_pos hlt (ev_pos c1 (ev_bindc (bmay_eq _) (ev_pos (by simp [c2]) ?_)))))
            exact ev_ite (fun _ => ev_ite (fun _ => ev_pos c3 (Ev.now _)) (fun _ => Ev.now _)) (fun _ => ev_pos c3 (Ev.now _))
          · have w3 : wrap64 (a + x.f1) = a + x.f1 := w64 (by omega)
            obtain ⟨b, hb, hi⟩ := ih (pre ++ [x]) (a + x.f1) (!x.f2) (by omega) (by omega) (by rw [← e]; exact hl)
            rw [hlen2, ← e] at hb
            refine ⟨b, Ev.step (fun k => by rw [chain_May.l0]) ?_, ?_⟩
            · rw [rdt_mid, w2, w1, w3]
              refine ev_pos hlt (ev_pos (by omega) (ev_pos hlt (ev_pos c1 (ev_bindc (bmay_eq _) (ev_pos (by simp [c2]) ?_)))))
              refine ev_ite (fun hf => ?_) (fun _ => ev_neg c3 hb)
              refine ev_pos ?_ (ev_neg c3 hb)
              cases hx : x.f2 with
              | true => rfl
              | false => exact absurd ⟨hf, hx⟩ c4
            · rw [hi]
              constructor
              · intro h
                exact ⟨c1, c2.1, c2.2, by omega, fun hf => by
                  cases hx : x.f2 with
                  | true => rfl
                  | false => exact absurd ⟨hf, hx⟩ c4, h⟩
              · exact fun h => h.2.2.2.2.2
      · refine ⟨false, Ev.step (fun k => by rw [chain_May.l0]) ?_, ⟨fun h => (by cases h), fun h => absurd ⟨h.2.1, h.2.2.1⟩ c2⟩⟩
        rw [rdt_mid]
        exact ev_pos hlt (ev_pos (by omega) (ev_pos hlt (ev_pos c1 (ev_bindc (bmay_eq _) (ev_neg (by simp; omega) (Ev.now _))))))
    · refine ⟨false, Ev.step (fun k => by rw [chain_May.l0]) ?_, ⟨fun h => (by cases h), fun h => absurd h.1 c1⟩⟩
      rw [rdt_mid]
      exact ev_pos hlt (ev_pos (by omega) (ev_pos hlt (ev_neg c1 (Ev.now _))))
theorem cmay_ev {l : List S45} (words : Int) (hl : l.length ≤ 100000) : ∃ b, Ev (fun k => chain_May.f k l words) b ∧ (b = true ↔ MayB l words) := by
  unfold chain_May.f
  by_cases h : 8 ≤ words ∧ words ≤ 512 ∧ words % 8 = 0
  · obtain ⟨b, hb, hi⟩ := cmay_l0 (words := words) (by omega) l [] 0 false (by omega) (by omega) hl
    refine ⟨b, ev_bindc (cmayw_eq words) (ev_pos (by simp [h]) hb), hi.trans ⟨fun hh => ⟨h, hh⟩, fun hh => hh.2⟩⟩
  · exact ⟨false, ev_bindc (cmayw_eq words) (ev_neg (by simpa using h) (Ev.now _)), ⟨fun hh => (by cases hh), fun hh => absurd hh.1 h⟩⟩
theorem cmay_yes {l : List S45} {words : Int} (hl : l.length ≤ 100000) (h : MayB l words) : Ev (fun k => chain_May.f k l words) true := by
  obtain ⟨b, hb, hi⟩ := cmay_ev words hl
  rwa [hi.2 h] at hb
theorem blk_ext {a b : S45} (h0 : a.f0 = b.f0) (h1 : a.f1 = b.f1) (h2 : a.f2 = b.f2) : a = b := by
  cases a; cases b; simp at h0 h1 h2; simp [h0, h1, h2]
theorem parse_eq {w : Int} (h : 0 ≤ w ∧ w ≤ 18446744073709551615) :
    block_Parse.f w = if 2 ≤ w / 2 ∧ w / 2 ≤ 512 then some (w / 2, w % 2 == 1, true) else some (0, false, false) := by
  unfold block_Parse.f block_May.f
  rw [u64_and1 h.1 h.2, w64 (by omega)]
  by_cases h1 : w / 2 > 512
  · rw [if_pos h1, if_neg (by omega)]
  · rw [if_neg h1]
    by_cases h2 : w / 2 ≥ 2
    · rw [if_pos h2, if_pos (by omega)]
      simp only [Option.bind_some]
      rw [if_pos (by simp; omega)]
    · rw [if_neg h2, if_neg (by omega)]; rfl
theorem word_eq (n : Int) (u : Bool) : block_Word.f n u = some (if 2 ≤ n ∧ n ≤ 512 then 2 * n + (if u then 1 else 0) else 0) := by
  unfold block_Word.f block_May.f
  by_cases h : 2 ≤ n ∧ n ≤ 512
  · rw [if_pos (by omega), if_pos h]
    simp only [Option.bind_some]
    rw [if_pos (by simp; omega)]
    have e : IntKind.u64.wrap (IntKind.u64.wrap n * 2) = 2 * n := by rw [u64w, u64w]; omega
    rw [e]
    cases u
    · simp
    · simp only [if_true]; rw [u64_or1 (by omega) (by omega) (by omega)]
  · rw [if_neg h]
    by_cases h2 : n ≥ 2
    · rw [if_pos h2]; simp only [Option.bind_some]; rw [if_neg (by simp; omega)]
    · rw [if_neg h2]; rfl
def Wds (w : List Int) : Prop := w.length ≤ 2000 ∧ ∀ j : Int, 0 ≤ rd w j ∧ rd w j ≤ 18446744073709551615
def ParseP (w : List Int) : Int → List S45 → Prop
  | a, [] => (w.length : Int) ≤ a
  | a, b :: l => a < w.length ∧ b.f0 = a ∧ 2 ≤ rd w a / 2 ∧ rd w a / 2 ≤ 512 ∧ b.f1 = rd w a / 2 ∧ b.f2 = (rd w a % 2 == 1) ∧ ParseP w (a + b.f1) l
theorem parse_one {w : List Int} {l : List S45} : ∀ {a : Int} {m : List S45}, ParseP w a l → ParseP w a m → l = m := by
  induction l with
  | nil =>
    intro a m h h'
    cases m with
    | nil => rfl
    | cons b m => have h1 : (w.length : Int) ≤ a := h; have := h'.1; omega
  | cons b l ih =>
    intro a m h h'
    cases m with
    | nil => have h1 : (w.length : Int) ≤ a := h'; have := h.1; omega
    | cons c m =>
      obtain ⟨a0, a1, a2, a3, a4, a5, a6⟩ := h
      obtain ⟨b0, b1, b2, b3, b4, b5, b6⟩ := h'
      have e : b = c := blk_ext (by rw [a1, b1]) (by rw [a4, b4]) (by rw [a5, b5])
      subst e
      rw [ih a6 b6]
def BlocksP (w : List Int) (r : List S45 × Bool) : Prop :=
  (ParseP w 0 r.1 ∧ MayB r.1 w.length ∧ r.2 = true) ∨ ((∀ l, ParseP w 0 l → ¬ MayB l w.length) ∧ r = ([], false))
theorem blocks_one {w : List Int} {r r' : List S45 × Bool} (h : BlocksP w r) (h' : BlocksP w r') : r = r' := by
  rcases h with ⟨a, b, c⟩ | ⟨a, b⟩
  · rcases h' with ⟨a', b', c'⟩ | ⟨a', b'⟩
    · exact Prod.ext (parse_one a a') (by rw [c, c'])
    · exact absurd b (a' _ a)
  · rcases h' with ⟨a', b', c'⟩ | ⟨a', b'⟩
    · exact absurd b' (a _ a')
    · rw [b, b']
theorem blocks_l0 {w : List Int} (hw : Wds w) (d : Nat) : ∀ (acc : List S45) (a : Int), 0 ≤ a → (w.length : Int) ≤ a + d → a ≤ 3000 → (acc.length : Int) ≤ a →
    ∃ r, Ev (fun k => chain_Blocks.l0 k w acc a) r ∧ ((∃ l, ParseP w a l ∧ MayB (acc ++ l) w.length ∧ r = (acc ++ l, true)) ∨ ((∀ l, ParseP w a l → ¬ MayB (acc ++ l) w.length) ∧ r = ([], false))) := by
  have hlen := hw.1
  have fin : ∀ (acc : List S45) (a : Int), 0 ≤ a → (w.length : Int) ≤ a → a ≤ 3000 → (acc.length : Int) ≤ a →
      ∃ r, Ev (fun k => chain_Blocks.l0 k w acc a) r ∧ ((∃ l, ParseP w a l ∧ MayB (acc ++ l) w.length ∧ r = (acc ++ l, true)) ∨ ((∀ l, ParseP w a l → ¬ MayB (acc ++ l) w.length) ∧ r = ([], false))) := by
    intro acc a h0 h1 h2 h3
    obtain ⟨b, hb, hi⟩ := cmay_ev (l := acc) (w.length : Int) (by omega)
    have pn : ∀ l, ParseP w a l → l = [] := fun l hl => by
      cases l with
      | nil => rfl
      | cons c l => have := hl.1; omega
    cases b with
    | true =>
      refine ⟨(acc, true), Ev.step (fun k => by rw [chain_Blocks.l0]) ?_, Or.inl ⟨[], h1, by rw [List.append_nil]; exact hi.1 rfl, by rw [List.append_nil]⟩⟩
      exact ev_neg (by omega) (ev_bind hb (ev_pos rfl (Ev.now _)))
    | false =>
      refine ⟨([], false), Ev.step (fun k => by rw [chain_Blocks.l0]) ?_, Or.inr ⟨fun l hl hm => ?_, rfl⟩⟩
      · exact ev_neg (by omega) (ev_bind hb (ev_neg (by decide) (Ev.now _)))
      · rw [pn l hl, List.append_nil] at hm
        have := hi.2 hm
        cases this
  induction d with
  | zero => intro acc a h0 h1; exact fin acc a h0 (by omega)
  | succ d ih =>
    intro acc a h0 h1 h2 h3
    by_cases ha : (w.length : Int) ≤ a
    · exact fin acc a h0 ha h2 h3
    · have hr := hw.2 a
      by_cases hp : 2 ≤ rd w a / 2 ∧ rd w a / 2 ≤ 512
      · obtain ⟨r, hb, hi⟩ := ih (acc ++ [(⟨a, rd w a / 2, rd w a % 2 == 1⟩ : S45)]) (a + rd w a / 2) (by omega) (by omega) (by omega) (by simp; omega)
        refine ⟨r, Ev.step (fun k => by rw [chain_Blocks.l0]) ?_, ?_⟩
        · rw [parse_eq hr, if_pos hp]
          refine ev_pos (by omega) (ev_pos h0 (ev_bindc rfl ?_))
          refine ev_pos rfl (ev_pos (by omega) ?_)
          rw [w64 (n := a + rd w a / 2) (by omega)]
          exact hb
        · rcases hi with ⟨l, q1, q2, q3⟩ | ⟨q1, q2⟩
          · refine Or.inl ⟨(⟨a, rd w a / 2, rd w a % 2 == 1⟩ : S45) :: l, ⟨by omega, rfl, hp.1, hp.2, rfl, rfl, q1⟩, ?_, ?_⟩
            · rw [List.append_assoc] at q2; exact q2
            · rw [q3, List.append_assoc]; rfl
          · refine Or.inr ⟨fun l hl => ?_, q2⟩
            cases l with
            | nil => have hl : (w.length : Int) ≤ a := hl; omega
            | cons b l =>
              obtain ⟨b0, b1, b2, b3, b4, b5, b6⟩ := hl
              have e : b = (⟨a, rd w a / 2, rd w a % 2 == 1⟩ : S45) := blk_ext b1 b4 b5
              rw [b4] at b6
              have := q1 l b6
              rw [List.append_assoc] at this
              rw [e]; exact this
      · refine ⟨([], false), Ev.step (fun k => by rw [chain_Blocks.l0]) ?_, Or.inr ⟨fun l hl => ?_, rfl⟩⟩
        · rw [parse_eq hr, if_neg hp]
          exact ev_pos (by omega) (ev_pos h0 (ev_bindc rfl (ev_neg (by decide) (Ev.now _))))
        · cases l with
          | nil => have hl : (w.length : Int) ≤ a := hl; omega
          | cons b l => exact absurd ⟨hl.2.2.1, hl.2.2.2.1⟩ hp
theorem blocks_ev {w : List Int} (hw : Wds w) : ∃ r, Ev (fun k => chain_Blocks.f k w) r ∧ BlocksP w r := by
  have hlen := hw.1
  obtain ⟨r, h1, h2⟩ := blocks_l0 hw w.length [] 0 (by omega) (by omega) (by omega) (by simp)
  refine ⟨r, h1, ?_⟩
  rcases h2 with ⟨l, a, b, c⟩ | ⟨a, b⟩
  · rw [c]; exact Or.inl ⟨a, b, rfl⟩
  · exact Or.inr ⟨a, b⟩
theorem blocks_yes {w : List Int} {l : List S45} (hw : Wds w) (hp : ParseP w 0 l) (hm : MayB l w.length) : Ev (fun k => chain_Blocks.f k w) (l, true) := by
  obtain ⟨r, h1, h2⟩ := blocks_ev hw
  have := blocks_one h2 (Or.inl ⟨hp, hm, rfl⟩ : BlocksP w (l, true))
  rwa [this] at h1
def headOf (b : S45) : Int := 2 * b.f1 + (if b.f2 = true then 1 else 0)
theorem head_r (b : S45) : (headOf b / 2 = b.f1) ∧ ((headOf b % 2 == 1) = b.f2) := by
  unfold headOf
  cases b.f2
  · rw [if_neg (by decide)]; exact ⟨by omega, by rw [beq_eq_false_iff_ne]; omega⟩
  · rw [if_pos rfl]; exact ⟨by omega, by rw [beq_iff_eq]; omega⟩
theorem parse_of {w : List Int} {l : List S45} : ∀ {a : Int} {fr : Bool}, ChainP w.length a fr l → (∀ b ∈ l, rd w b.f0 = headOf b) → ParseP w a l := by
  induction l with
  | nil => intro a fr h _; have h : a = w.length := h; show (w.length : Int) ≤ a; omega
  | cons b l ih =>
    intro a fr h hh
    obtain ⟨h0, h1, h2, h3, h4, h5⟩ := h
    have hb := hh b (by simp)
    rw [h0] at hb
    have hr := head_r b
    exact ⟨by omega, h0, by rw [hb, hr.1]; exact h1, by rw [hb, hr.1]; exact h2, by rw [hb, hr.1], by rw [hb, hr.2], ih h5 (fun c hc => hh c (by simp [hc]))⟩
theorem first_eq (n : Int) : chain_First.f n = some (if MayW n then (List.replicate n.toNat 0).set 0 (2 * n) else []) := by
  unfold chain_First.f
  rw [cmayw_eq]
  simp only [Option.bind_some]
  by_cases h : 8 ≤ n ∧ n ≤ 512 ∧ n % 8 = 0
  · rw [if_pos (by simp [h]), if_pos (by omega), if_pos (by omega), if_pos (show MayW n from h), word_eq, if_pos (by omega)]
    simp only [Option.bind_some]
    rw [if_pos (by simp; omega)]
    simp
  · rw [if_neg (by simpa using h), if_neg (show ¬ MayW n from h)]
def sumS : List S45 → Int
  | [] => 0
  | b :: l => b.f1 + sumS l
theorem chain_app {words : Int} (suf : List S45) (pre : List S45) : ∀ {a : Int} {fr : Bool}, ChainP words a fr (pre ++ suf) → ∃ fr', ChainP words (a + sumS pre) fr' suf := by
  induction pre with
  | nil => intro a fr h; exact ⟨fr, by show ChainP words (a + 0) fr suf; rw [Int.add_zero]; exact h⟩
  | cons b pre ih =>
    intro a fr h
    obtain ⟨c0, c1, c2, c3, c4, c5⟩ := h
    obtain ⟨fr', h'⟩ := ih c5
    refine ⟨fr', ?_⟩
    show ChainP words (a + (b.f1 + sumS pre)) fr' suf
    rw [← Int.add_assoc]; exact h'
theorem chain_total {words : Int} (l : List S45) {a : Int} {fr : Bool} (h : ChainP words a fr l) : words = a + sumS l := by
  obtain ⟨fr', h'⟩ := chain_app [] l (by rw [List.append_nil]; exact h)
  have h' : a + sumS l = words := h'
  omega
theorem split_two {l : List S45} {j : Int} (h0 : 0 ≤ j) (h1 : j + 1 < l.length) : ∃ pre x y suf, l = pre ++ x :: y :: suf ∧ (pre.length : Int) = j := by
  refine ⟨l.take j.toNat, l[j.toNat]'(by omega), l[j.toNat + 1]'(by omega), l.drop (j.toNat + 2), ?_, by rw [List.length_take]; omega⟩
  rw [← List.drop_eq_getElem_cons (by omega), ← List.drop_eq_getElem_cons (by omega)]
  exact (List.take_append_drop _ _).symm
theorem rd_set {t : List Int} {i : Nat} (v j : Int) (hi : i < t.length) : rd (t.set i v) j = if j.toNat = i then v else rd t j := by
  unfold rd
  rw [List.getD_eq_getElem?_getD, List.getElem?_set, List.getD_eq_getElem?_getD]
  by_cases h : i = j.toNat
  · rw [if_pos h, if_pos (by omega), if_pos h.symm]; rfl
  · rw [if_neg h, if_neg (fun e => h e.symm)]
theorem rd_rep (n : Nat) (j : Int) : rd (List.replicate n 0) j = 0 := by
  unfold rd
  rw [List.getD_eq_getElem?_getD, List.getElem?_replicate]
  by_cases h : j.toNat < n
  · rw [if_pos h]; rfl
  · rw [if_neg h]; rfl
theorem wds_set {v : List Int} {i : Nat} {x : Int} (hv : Wds v) (h0 : 0 ≤ x) (h1 : x ≤ 18446744073709551615) : Wds (v.set i x) := by
  refine ⟨by rw [List.length_set]; exact hv.1, fun j => ?_⟩
  by_cases hi : i < v.length
  · rw [rd_set x j hi]
    by_cases h : j.toNat = i
    · rw [if_pos h]; exact ⟨h0, h1⟩
    · rw [if_neg h]; exact hv.2 j
  · rw [List.set_eq_of_length_le (by omega)]; exact hv.2 j
def lastFr : Bool → List S45 → Bool
  | fr, [] => fr
  | _, b :: l => lastFr (!b.f2) l
theorem lastFr_app (P R : List S45) : ∀ fr, lastFr fr (P ++ R) = lastFr (lastFr fr P) R := by
  induction P with
  | nil => intro fr; rfl
  | cons b P ih => intro fr; exact ih _
theorem sumS_app (P R : List S45) : sumS (P ++ R) = sumS P + sumS R := by
  induction P with
  | nil => show sumS R = 0 + sumS R; omega
  | cons b P ih => show b.f1 + sumS (P ++ R) = (b.f1 + sumS P) + sumS R; rw [ih]; omega
theorem chain_snd {words : Int} (P R : List S45) : ∀ {a : Int} {fr : Bool}, ChainP words a fr (P ++ R) → ChainP words (a + sumS P) (lastFr fr P) R := by
  induction P with
  | nil => intro a fr h; show ChainP words (a + 0) fr R; rw [Int.add_zero]; exact h
  | cons b P ih =>
    intro a fr h
    obtain ⟨h0, h1, h2, h3, h4, h5⟩ := h
    have := ih h5
    show ChainP words (a + (b.f1 + sumS P)) (lastFr (!b.f2) P) R
    rw [← Int.add_assoc]; exact this
theorem chain_re {words : Int} (P R R' : List S45) : ∀ {a : Int} {fr : Bool}, ChainP words a fr (P ++ R) → ChainP words (a + sumS P) (lastFr fr P) R' → ChainP words a fr (P ++ R') := by
  induction P with
  | nil => intro a fr _ h; have h : ChainP words (a + 0) fr R' := h; rw [Int.add_zero] at h; exact h
  | cons b P ih =>
    intro a fr h h'
    obtain ⟨h0, h1, h2, h3, h4, h5⟩ := h
    have h' : ChainP words (a + (b.f1 + sumS P)) (lastFr (!b.f2) P) R' := h'
    rw [← Int.add_assoc] at h'
    exact ⟨h0, h1, h2, h3, h4, ih h5 h'⟩
theorem chain_fr {words : Int} {Q : List S45} {a : Int} {fr : Bool} (fr2 : Bool) (h : ChainP words a fr Q) (hq : ∀ q Q', Q = q :: Q' → q.f2 = true) : ChainP words a fr2 Q := by
  cases Q with
  | nil => exact h
  | cons q Q =>
    obtain ⟨h0, h1, h2, h3, h4, h5⟩ := h
    exact ⟨h0, h1, h2, h3, fun _ => hq q Q rfl, h5⟩
theorem sumS_nn {words : Int} (P R : List S45) {a : Int} {fr : Bool} (h : ChainP words a fr (P ++ R)) : 2 * (P.length : Int) ≤ sumS P ∧ a + sumS P + 2 * R.length ≤ words := by
  constructor
  · have : ∀ b ∈ P, 2 ≤ b.f1 := fun b hb => (chain_mem h b (List.mem_append_left _ hb)).2.1
    clear h
    induction P with
    | nil => show 2 * ((0 : Nat) : Int) ≤ 0; omega
    | cons b P ih =>
      have h1 := ih (fun c hc => this c (List.mem_cons_of_mem _ hc))
      have h2 := this b List.mem_cons_self
      show 2 * (((P.length + 1 : Nat)) : Int) ≤ b.f1 + sumS P
      omega
  · exact chain_len (chain_snd P R h)
theorem chain_join {words : Int} {P M Q : List S45} {x : S45} {a : Int} {fr : Bool} (hw : words ≤ 512) (ha : 0 ≤ a) (h : ChainP words a fr (P ++ (x :: M) ++ Q)) (hp : lastFr fr P = false)
    (hq : ∀ q Q', Q = q :: Q' → q.f2 = true) : x.f0 = a + sumS P ∧ ChainP words a fr (P ++ (⟨x.f0, sumS (x :: M), false⟩ : S45) :: Q) := by
  rw [List.append_assoc] at h
  have h1 := chain_snd P _ h
  rw [hp] at h1
  have n1 := sumS_nn P _ h
  have n2 := sumS_nn (x :: M) Q h1
  have e0 : x.f0 = a + sumS P := h1.1
  refine ⟨e0, chain_re P _ _ h ?_⟩
  rw [hp]
  simp only [List.length_cons] at n2
  refine ⟨e0, by show 2 ≤ sumS (x :: M); omega, by show sumS (x :: M) ≤ 512; omega, by show sumS (x :: M) ≤ words - (a + sumS P); omega, (fun hf => nomatch hf), ?_⟩
  exact chain_fr true (chain_snd (x :: M) Q h1) hq
def IsB (l : List S45) : Prop := MayB l (sumS l)
theorem isb_of {l : List S45} {w : Int} (h : MayB l w) : w = sumS l := by have := chain_total l h.2; omega
-- sums of sizes, as the program and the reference count them
theorem mwords_l0 (l : List S45) (hl : l.length ≤ 100000) (suf : List S45) : ∀ pre : List S45, l = pre ++ suf → (∀ b ∈ pre, 2 ≤ b.f1 ∧ b.f1 ≤ 512) → 0 ≤ sumS pre → sumS pre ≤ 1024 →
    ∃ t, Ev (fun k => merge_words.l0 k (sumS pre) l (l.length : Int) (pre.length : Int)) t ∧ ((∃ w, MayB l w) → t = sumS l) ∧ (t = sumS l ∨ t = 0) ∧ ((∀ b ∈ l, 2 ≤ b.f1 ∧ b.f1 ≤ 512) → sumS l ≤ 512 → t = sumS l) := by
  induction suf with
  | nil =>
    intro pre e hp h0 h1
    rw [List.append_nil] at e
    subst e
    exact ⟨sumS l, Ev.step (fun k => by rw [merge_words.l0]) (ev_neg (by simp) (Ev.now _)), fun _ => rfl, .inl rfl, fun _ _ => rfl⟩
  | cons x suf ih =>
    intro pre e hp h0 h1
    have hlt : (pre.length : Int) < (l.length : Int) := by rw [e]; simp; omega
    have ex : rd_T45 l (pre.length : Int) = x := by rw [e]; exact rdt_mid pre suf x
    by_cases c1 : 2 ≤ x.f1 ∧ x.f1 ≤ 512
    · by_cases c2 : sumS pre > 512
      · have big : (∀ b ∈ l, 2 ≤ b.f1 ∧ b.f1 ≤ 512) → ¬ sumS l ≤ 512 := by
          intro hb hs
          rw [e, sumS_app] at hs
          have : ∀ m : List S45, (∀ b ∈ m, 2 ≤ b.f1 ∧ b.f1 ≤ 512) → 0 ≤ sumS m := by
            intro m
            induction m with
            | nil => intro _; exact Int.le_refl _
            | cons c m ihm => intro hc; have q1 := hc c List.mem_cons_self; have q2 := ihm (fun d hd => hc d (List.mem_cons_of_mem _ hd)); show 0 ≤ c.f1 + sumS m; omega
          have q := this (x :: suf) (fun b hb' => hb b (by rw [e]; exact List.mem_append_right _ hb'))
          omega
        refine ⟨0, Ev.step (fun k => by rw [merge_words.l0]) ?_, fun ⟨w, hw⟩ => ?_, .inr rfl, fun hb hs => absurd hs (big hb)⟩
        · rw [ex]
          exact ev_pos hlt (ev_pos (by omega) (ev_pos hlt (ev_bindc (bmay_eq _) (ev_pos (by simp [c1]) (ev_pos c2 (Ev.now _))))))
        · have ht := chain_total l hw.2
          have hw1 := hw.1
          unfold MayW at hw1
          exact absurd (by omega : sumS l ≤ 512) (big (fun b hb => ⟨(chain_mem hw.2 b hb).2.1, (chain_mem hw.2 b hb).2.2.1⟩))
      · obtain ⟨t, ht, hi⟩ := ih (pre ++ [x]) (by rw [e]; simp) (by
          intro b hb
          rcases List.mem_append.1 hb with hb | hb
          · exact hp b hb
          · rw [List.mem_singleton.1 hb]; exact c1) (by rw [sumS_app]; show 0 ≤ sumS pre + (x.f1 + 0); omega) (by rw [sumS_app]; show sumS pre + (x.f1 + 0) ≤ 1024; omega)
        have es : sumS (pre ++ [x]) = sumS pre + x.f1 := by rw [sumS_app]; show sumS pre + (x.f1 + 0) = _; omega
        refine ⟨t, Ev.step (fun k => by rw [merge_words.l0]) ?_, hi⟩
        rw [ex, w64 (n := sumS pre + x.f1) (by omega), w64 (n := (pre.length : Int) + 1) (by omega)]
        refine ev_pos hlt (ev_pos (by omega) (ev_pos hlt (ev_bindc (bmay_eq _) (ev_pos (by simp [c1]) (ev_neg c2 ?_)))))
        rw [es] at ht
        simpa using ht
    · refine ⟨0, Ev.step (fun k => by rw [merge_words.l0]) ?_, fun ⟨w, hw⟩ => ?_, .inr rfl, fun hb _ => absurd (hb x (by rw [e]; simp)) c1⟩
      · rw [ex]
        exact ev_pos hlt (ev_pos (by omega) (ev_pos hlt (ev_bindc (bmay_eq _) (ev_neg (by simp; omega) (Ev.now _)))))
      · have := chain_mem hw.2 x (by rw [e]; simp)
        omega
theorem mwords_ev {l : List S45} (hl : l.length ≤ 100000) : ∃ t, Ev (fun k => merge_words.f k l) t ∧ ((∃ w, MayB l w) → t = sumS l) ∧ (t = sumS l ∨ t = 0) ∧ ((∀ b ∈ l, 2 ≤ b.f1 ∧ b.f1 ≤ 512) → sumS l ≤ 512 → t = sumS l) :=
  mwords_l0 l hl l [] rfl (fun b hb => nomatch hb) (Int.le_refl _) (by show (0 : Int) ≤ 1024; omega)
theorem mwords_sum {l : List S45} (hl : l.length ≤ 100000) (h : ∀ b ∈ l, 2 ≤ b.f1 ∧ b.f1 ≤ 512) (hs : sumS l ≤ 512) : Ev (fun k => merge_words.f k l) (sumS l) := by
  obtain ⟨t, ht, _, _, h3⟩ := mwords_ev hl
  rwa [h3 h hs] at ht
-- which blocks become one
def mFrom (l : List S45) (i : Int) : Int := if i > 0 ∧ (rd_T45 l (i - 1)).f2 = false then i - 1 else i
def mTo (l : List S45) (i : Int) : Int := if i + 1 < l.length ∧ (rd_T45 l (i + 1)).f2 = false then i + 2 else i + 1
def Can (l : List S45) (i : Int) : Prop := IsB l ∧ 0 ≤ i ∧ i < l.length ∧ (rd_T45 l i).f2 = true
theorem around_yes {l : List S45} {i : Int} (hl : l.length ≤ 100000) (h : Can l i) : Ev (fun k => merge_around.f k l i) (mFrom l i, mTo l i, true) := by
  obtain ⟨h1, h2, h3, h4⟩ := h
  unfold merge_around.f
  obtain ⟨t, ht, hi, _⟩ := mwords_ev hl
  rw [hi ⟨_, h1⟩] at ht
  refine ev_bind ht (ev_bind (cmay_yes hl h1) (ev_pos rfl (ev_neg (by omega) (ev_neg (by omega) (ev_pos h2 (ev_pos h3 ?_))))))
  rw [h4]
  refine Ev.step (fun k => by rw [merge_around.j0]) ?_
  refine ev_neg (by decide) ?_
  rw [w64 (n := i - 1) (by omega), w64 (n := i + 1) (by omega)]
  have go : ∀ b : Bool, (b = true ↔ (i > 0 ∧ (rd_T45 l (i - 1)).f2 = false)) → Ev (fun k => merge_around.j1 k l i (i + 1) b) (mFrom l i, mTo l i, true) := by
    intro b hb
    refine Ev.step (fun k => by rw [merge_around.j1]) ?_
    rw [w64 (n := i - 1) (by omega), w64 (n := i + 1 + 1) (by omega)]
    unfold mFrom mTo
    refine ev_ite (fun c => ?_) (fun c => ?_)
    · rw [if_pos (hb.1 c)]
      refine ev_ite (fun d => ev_pos (by omega) (ev_ite (fun e => ?_) (fun e => ?_))) (fun d => ?_)
      · rw [if_neg (by simp [e])]; exact Ev.now _
      · rw [if_pos ⟨d, by simpa using e⟩, show i + 1 + 1 = i + 2 from by omega]; exact Ev.now _
      · rw [if_neg (fun hh => d hh.1)]; exact Ev.now _
    · rw [if_neg (fun hh => c (hb.2 hh))]
      refine ev_ite (fun d => ev_pos (by omega) (ev_ite (fun e => ?_) (fun e => ?_))) (fun d => ?_)
      · rw [if_neg (by simp [e])]; exact Ev.now _
      · rw [if_pos ⟨d, by simpa using e⟩, show i + 1 + 1 = i + 2 from by omega]; exact Ev.now _
      · rw [if_neg (fun hh => d hh.1)]; exact Ev.now _
  refine ev_ite (fun c => ev_pos (by omega) (ev_pos (by omega) (go _ ?_))) (fun c => go _ ?_)
  · simp [c]
  · simp [c]
theorem from_to {l : List S45} {i : Int} (h : 0 ≤ i ∧ i < l.length) : 0 ≤ mFrom l i ∧ mFrom l i ≤ i ∧ i < mTo l i ∧ mTo l i ≤ l.length := by
  unfold mFrom mTo
  refine ⟨?_, ?_, ?_, ?_⟩
  · split <;> omega
  · split <;> omega
  · split <;> omega
  · split <;> omega
def mP (l : List S45) (i : Int) : List S45 := l.take (mFrom l i).toNat
def mM (l : List S45) (i : Int) : List S45 := (l.take (mTo l i).toNat).drop (mFrom l i).toNat
def mQ (l : List S45) (i : Int) : List S45 := l.drop (mTo l i).toNat
theorem m_split {l : List S45} {i : Int} (h : 0 ≤ i ∧ i < l.length) : l = mP l i ++ mM l i ++ mQ l i := by
  have hf := from_to h
  unfold mP mM mQ
  rw [show l.take (mFrom l i).toNat = (l.take (mTo l i).toNat).take (mFrom l i).toNat from by rw [List.take_take, Nat.min_eq_left (by omega)], List.take_append_drop, List.take_append_drop]
def mrg (l : List S45) (i : Int) : List S45 := mP l i ++ [⟨(rd_T45 l (mFrom l i)).f0, sumS (mM l i), false⟩] ++ mQ l i
theorem mM_good {l : List S45} {i : Int} (h : IsB l) (hi : 0 ≤ i ∧ i < l.length) : (∀ b ∈ mM l i, 2 ≤ b.f1 ∧ b.f1 ≤ 512) ∧ sumS (mM l i) ≤ 512 := by
  have e := m_split hi
  have hc := h.2
  have hw := h.1
  unfold MayW at hw
  constructor
  · intro b hb
    have := chain_mem hc b (by rw [e]; exact List.mem_append_left _ (List.mem_append_right _ hb))
    omega
  · generalize hs : sumS l = w at hc hw
    rw [e, List.append_assoc] at hc
    have n1 := sumS_nn _ _ hc
    have n2 := sumS_nn _ _ (chain_snd _ _ hc)
    omega
theorem mM_len {l : List S45} {i : Int} (hi : 0 ≤ i ∧ i < l.length) : (mM l i).length ≤ 3 := by
  unfold mM
  rw [List.length_drop, List.length_take]
  unfold mFrom mTo
  split <;> split <;> omega
def hWordM (n : Int) (u : Bool) : Int := if 2 ≤ n ∧ n ≤ 512 then 2 * n + (if u then 1 else 0) else 0
theorem medit_yes {l : List S45} {i : Int} (hl : l.length ≤ 1000) (h : Can l i) : Ev (fun k => merge_Edit.f k l i) ((rd_T45 l (mFrom l i)).f0, hWordM (sumS (mM l i)) false, true) := by
  have hi : 0 ≤ i ∧ i < l.length := ⟨h.2.1, h.2.2.1⟩
  have ft := from_to hi
  have g := mM_good h.1 hi
  have n := mM_len hi
  unfold merge_Edit.f
  refine ev_bind (around_yes (by omega) h) (ev_pos rfl (ev_pos ft.1 (ev_pos (by show mFrom l i < _; omega) (ev_pos (by show mFrom l i ≤ mTo l i; omega) (ev_pos ft.2.2.2 ?_)))))
  exact ev_bind (mwords_sum (l := mM l i) (by omega) g.1 g.2) (ev_bindc (word_eq _ _) (Ev.now _))
theorem rdt_drop {l : List S45} {n : Int} {q : S45} {Q : List S45} (_h0 : 0 ≤ n) (h : l.drop n.toNat = q :: Q) : rd_T45 l n = q ∧ n < l.length := by
  have h1 := congrArg List.head? h
  rw [List.head?_drop, List.head?_cons] at h1
  have h2 : n.toNat < l.length := by
    rcases Nat.lt_or_ge n.toNat l.length with h | h
    · exact h
    · rw [List.getElem?_eq_none h] at h1; cases h1
  refine ⟨?_, by omega⟩
  unfold rd_T45
  rw [List.getD_eq_getElem?_getD, h1]
  rfl
theorem chain_alt {l : List S45} {words j : Int} (h : ChainP words 0 false l) (h0 : 0 ≤ j) (h1 : j + 1 < l.length) (hf : (rd_T45 l j).f2 = false) : (rd_T45 l (j + 1)).f2 = true := by
  obtain ⟨pre, x, y, suf, hl, hp⟩ := split_two h0 h1
  rw [hl] at h
  have hs := chain_snd pre _ h
  have ex : rd_T45 l j = x := by rw [hl, ← hp]; exact rdt_mid pre _ x
  have ey : rd_T45 l (j + 1) = y := by
    rw [hl, ← hp, show pre ++ x :: y :: suf = (pre ++ [x]) ++ y :: suf from by simp, show (pre.length : Int) + 1 = ((pre ++ [x]).length : Int) from by simp]
    exact rdt_mid _ suf y
  rw [ex] at hf
  rw [ey]
  exact hs.2.2.2.2.2.2.2.2.2.1 (by rw [hf]; rfl)
theorem lastFr_take {l : List S45} {j : Int} (h0 : 0 ≤ j) (h1 : j < l.length) (fr : Bool) : lastFr fr (l.take (j + 1).toNat) = !(rd_T45 l j).f2 := by
  have e : l.take (j + 1).toNat = l.take j.toNat ++ [rd_T45 l j] := by
    obtain ⟨h, er⟩ := rdt_get h0 h1
    rw [er, show (j + 1).toNat = j.toNat + 1 from by omega, List.take_add_one, List.getElem?_eq_getElem h]
    rfl
  rw [e, lastFr_app]
  rfl
theorem m_parts {l : List S45} {i words : Int} (h : MayB l words) (hi : 0 ≤ i ∧ i < l.length) (_hu : (rd_T45 l i).f2 = true) :
    lastFr false (mP l i) = false ∧ (∃ M, mM l i = rd_T45 l (mFrom l i) :: M) ∧ (∀ q Q', mQ l i = q :: Q' → q.f2 = true) := by
  have ft := from_to hi
  refine ⟨?_, ?_, ?_⟩
  · unfold mP
    by_cases hz : mFrom l i = 0
    · rw [hz]; rfl
    · have e := lastFr_take (l := l) (j := mFrom l i - 1) (by omega) (by omega) false
      rw [show mFrom l i - 1 + 1 = mFrom l i from by omega] at e
      rw [e]
      have : (rd_T45 l (mFrom l i - 1)).f2 = true := by
        by_cases c : i > 0 ∧ (rd_T45 l (i - 1)).f2 = false
        · have ef : mFrom l i = i - 1 := by unfold mFrom; rw [if_pos c]
          rw [ef] at hz ⊢
          cases hb : (rd_T45 l (i - 1 - 1)).f2 with
          | true => rfl
          | false =>
            have := chain_alt h.2 (j := i - 1 - 1) (by omega) (by omega) hb
            rw [show i - 1 - 1 + 1 = i - 1 from by omega, c.2] at this
            cases this
        · have ef : mFrom l i = i := by unfold mFrom; rw [if_neg c]
          rw [ef] at hz ⊢
          cases hb : (rd_T45 l (i - 1)).f2 with
          | true => rfl
          | false => exact absurd ⟨by omega, hb⟩ c
      rw [this]; rfl
  · unfold mM
    have hlen : ((l.take (mTo l i).toNat).drop (mFrom l i).toNat).length ≠ 0 := by
      rw [List.length_drop, List.length_take]; omega
    cases hM : (l.take (mTo l i).toNat).drop (mFrom l i).toNat with
    | nil => rw [hM] at hlen; exact absurd rfl hlen
    | cons x M =>
      refine ⟨M, ?_⟩
      have := (rdt_drop ft.1 hM).1
      have e2 : rd_T45 (l.take (mTo l i).toNat) (mFrom l i) = rd_T45 l (mFrom l i) := by
        unfold rd_T45
        rw [List.getD_eq_getElem?_getD, List.getD_eq_getElem?_getD, List.getElem?_take_of_lt (by omega)]
      rw [← this, e2]
  · intro q Q' hq
    unfold mQ at hq
    obtain ⟨e, hlt⟩ := rdt_drop (by omega) hq
    rw [← e]
    by_cases c : i + 1 < l.length ∧ (rd_T45 l (i + 1)).f2 = false
    · have et : mTo l i = i + 2 := by unfold mTo; rw [if_pos c]
      rw [et] at hlt ⊢
      have := chain_alt h.2 (j := i + 1) (by omega) (by omega) c.2
      rwa [show i + 1 + 1 = i + 2 from by omega] at this
    · have et : mTo l i = i + 1 := by unfold mTo; rw [if_neg c]
      rw [et] at hlt ⊢
      cases hb : (rd_T45 l (i + 1)).f2 with
      | true => rfl
      | false => exact absurd ⟨hlt, hb⟩ c
theorem mrg_may {l : List S45} {i words : Int} (h : MayB l words) (hi : 0 ≤ i ∧ i < l.length) (hu : (rd_T45 l i).f2 = true) : MayB (mrg l i) words := by
  obtain ⟨hp, ⟨M, hM⟩, hq⟩ := m_parts h hi hu
  have hw := h.1
  have hc := h.2
  unfold MayW at hw
  rw [m_split hi, hM] at hc
  have := (chain_join (by omega) (Int.le_refl _) hc hp hq).2
  refine ⟨h.1, ?_⟩
  unfold mrg
  rw [List.append_assoc, hM]
  exact this
theorem can_of {l : List S45} {i words : Int} (h : MayB l words) (hi : 0 ≤ i ∧ i < l.length) (hu : (rd_T45 l i).f2 = true) : Can l i := by
  refine ⟨?_, hi.1, hi.2, hu⟩
  unfold IsB
  rw [← isb_of h]
  exact h
-- sums of sizes, as the program and the reference count them
theorem cwords_l0 (l : List S45) (hl : l.length ≤ 100000) (suf : List S45) : ∀ pre : List S45, l = pre ++ suf → (∀ b ∈ pre, 2 ≤ b.f1 ∧ b.f1 ≤ 512) → 0 ≤ sumS pre → sumS pre ≤ 1024 →
    ∃ t, Ev (fun k => carve_words.l0 k (sumS pre) l (l.length : Int) (pre.length : Int)) t ∧ ((∃ w, MayB l w) → t = sumS l) ∧ (t = sumS l ∨ t = 0) ∧ ((∀ b ∈ l, 2 ≤ b.f1 ∧ b.f1 ≤ 512) → sumS l ≤ 512 → t = sumS l) := by
  induction suf with
  | nil =>
    intro pre e hp h0 h1
    rw [List.append_nil] at e
    subst e
    exact ⟨sumS l, Ev.step (fun k => by rw [carve_words.l0]) (ev_neg (by simp) (Ev.now _)), fun _ => rfl, .inl rfl, fun _ _ => rfl⟩
  | cons x suf ih =>
    intro pre e hp h0 h1
    have hlt : (pre.length : Int) < (l.length : Int) := by rw [e]; simp; omega
    have ex : rd_T45 l (pre.length : Int) = x := by rw [e]; exact rdt_mid pre suf x
    by_cases c1 : 2 ≤ x.f1 ∧ x.f1 ≤ 512
    · by_cases c2 : sumS pre > 512
      · have big : (∀ b ∈ l, 2 ≤ b.f1 ∧ b.f1 ≤ 512) → ¬ sumS l ≤ 512 := by
          intro hb hs
          rw [e, sumS_app] at hs
          have : ∀ m : List S45, (∀ b ∈ m, 2 ≤ b.f1 ∧ b.f1 ≤ 512) → 0 ≤ sumS m := by
            intro m
            induction m with
            | nil => intro _; exact Int.le_refl _
            | cons c m ihm => intro hc; have q1 := hc c List.mem_cons_self; have q2 := ihm (fun d hd => hc d (List.mem_cons_of_mem _ hd)); show 0 ≤ c.f1 + sumS m; omega
          have q := this (x :: suf) (fun b hb' => hb b (by rw [e]; exact List.mem_append_right _ hb'))
          omega
        refine ⟨0, Ev.step (fun k => by rw [carve_words.l0]) ?_, fun ⟨w, hw⟩ => ?_, .inr rfl, fun hb hs => absurd hs (big hb)⟩
        · rw [ex]
          exact ev_pos hlt (ev_pos (by omega) (ev_pos hlt (ev_bindc (bmay_eq _) (ev_pos (by simp [c1]) (ev_pos c2 (Ev.now _))))))
        · have ht := chain_total l hw.2
          have hw1 := hw.1
          unfold MayW at hw1
          exact absurd (by omega : sumS l ≤ 512) (big (fun b hb => ⟨(chain_mem hw.2 b hb).2.1, (chain_mem hw.2 b hb).2.2.1⟩))
      · obtain ⟨t, ht, hi⟩ := ih (pre ++ [x]) (by rw [e]; simp) (by
          intro b hb
          rcases List.mem_append.1 hb with hb | hb
          · exact hp b hb
          · rw [List.mem_singleton.1 hb]; exact c1) (by rw [sumS_app]; show 0 ≤ sumS pre + (x.f1 + 0); omega) (by rw [sumS_app]; show sumS pre + (x.f1 + 0) ≤ 1024; omega)
        have es : sumS (pre ++ [x]) = sumS pre + x.f1 := by rw [sumS_app]; show sumS pre + (x.f1 + 0) = _; omega
        refine ⟨t, Ev.step (fun k => by rw [carve_words.l0]) ?_, hi⟩
        rw [ex, w64 (n := sumS pre + x.f1) (by omega), w64 (n := (pre.length : Int) + 1) (by omega)]
        refine ev_pos hlt (ev_pos (by omega) (ev_pos hlt (ev_bindc (bmay_eq _) (ev_pos (by simp [c1]) (ev_neg c2 ?_)))))
        rw [es] at ht
        simpa using ht
    · refine ⟨0, Ev.step (fun k => by rw [carve_words.l0]) ?_, fun ⟨w, hw⟩ => ?_, .inr rfl, fun hb _ => absurd (hb x (by rw [e]; simp)) c1⟩
      · rw [ex]
        exact ev_pos hlt (ev_pos (by omega) (ev_pos hlt (ev_bindc (bmay_eq _) (ev_neg (by simp; omega) (Ev.now _)))))
      · have := chain_mem hw.2 x (by rw [e]; simp)
        omega
theorem cwords_ev {l : List S45} (hl : l.length ≤ 100000) : ∃ t, Ev (fun k => carve_words.f k l) t ∧ ((∃ w, MayB l w) → t = sumS l) ∧ (t = sumS l ∨ t = 0) ∧ ((∀ b ∈ l, 2 ≤ b.f1 ∧ b.f1 ≤ 512) → sumS l ≤ 512 → t = sumS l) :=
  cwords_l0 l hl l [] rfl (fun b hb => nomatch hb) (Int.le_refl _) (by show (0 : Int) ≤ 1024; omega)
def tk (s need : Int) : Int := if need < 2 ∨ need > s then 0 else if s - need < 2 then s else need
theorem takes_ev {s n : Int} (hs : 2 ≤ s ∧ s ≤ 512) : Ev (fun k => fit_Takes.f k s n) (tk s n) := by
  unfold fit_Takes.f tk
  by_cases c : n < 2
  · rw [if_pos (.inl c)]
    refine ev_pos c (Ev.step (fun k => by rw [fit_Takes.j0]) (ev_pos rfl (Ev.now _)))
  · refine ev_neg c ?_
    by_cases d : n > s
    · rw [if_pos (.inr d), decide_eq_true d]
      exact Ev.step (fun k => by rw [fit_Takes.j0]) (ev_pos rfl (Ev.now _))
    · rw [if_neg (by omega), decide_eq_false d]
      refine Ev.step (fun k => by rw [fit_Takes.j0]) (ev_neg (by decide) ?_)
      rw [w64 (n := s - n) (by omega)]
      refine ev_ite (fun e => ?_) (fun e => ?_)
      · rw [if_pos e]; exact Ev.now _
      · rw [if_neg e]; exact Ev.now _
theorem tk_r {s n : Int} (h : tk s n ≠ 0) (hs : 2 ≤ s) : 2 ≤ tk s n ∧ tk s n ≤ s ∧ (tk s n < s → 2 ≤ s - tk s n) ∧ 2 ≤ n ∧ n ≤ tk s n := by
  unfold tk at h ⊢
  split at h
  · exact absurd rfl h
  · rename_i c
    rw [if_neg c]
    split <;> omega
theorem tk_zero {s n : Int} (hs : 2 ≤ s) : tk s n = 0 ↔ (n < 2 ∨ n > s) := by
  unfold tk
  split
  · rename_i c; exact ⟨fun _ => c, fun _ => rfl⟩
  · rename_i c
    split
    · exact ⟨fun h => by omega, fun h => absurd h c⟩
    · exact ⟨fun h => by omega, fun h => absurd h c⟩
def CanC (l : List S45) (i need : Int) : Prop := IsB l ∧ 0 ≤ i ∧ i < l.length ∧ (rd_T45 l i).f2 = false ∧ tk (rd_T45 l i).f1 need ≠ 0
def tkn (b : S45) (need : Int) : List S45 := ⟨b.f0, tk b.f1 need, true⟩ :: (if tk b.f1 need < b.f1 then [⟨b.f0 + tk b.f1 need, b.f1 - tk b.f1 need, false⟩] else [])
def crv (l : List S45) (i need : Int) : List S45 := l.take i.toNat ++ tkn (rd_T45 l i) need ++ l.drop (i.toNat + 1)
theorem isb_rd {l : List S45} {i : Int} (h : IsB l) (h0 : 0 ≤ i) (h1 : i < l.length) : 0 ≤ (rd_T45 l i).f0 ∧ 2 ≤ (rd_T45 l i).f1 ∧ (rd_T45 l i).f1 ≤ 512 ∧ (rd_T45 l i).f0 + (rd_T45 l i).f1 ≤ 512 := by
  have := chain_rd h.2 h0 h1
  have hw := h.1
  unfold MayW at hw
  omega
theorem taken_yes {l : List S45} {i need : Int} (hl : l.length ≤ 100000) (h : CanC l i need) : Ev (fun k => carve_taken.f k l i need) (tkn (rd_T45 l i) need) := by
  obtain ⟨h1, h2, h3, h4, h5⟩ := h
  have hr := isb_rd h1 h2 h3
  have ht := tk_r h5 hr.2.1
  unfold carve_taken.f
  obtain ⟨t, hw, hi, _⟩ := cwords_ev hl
  rw [hi ⟨_, h1⟩] at hw
  refine ev_bind hw (ev_bind (cmay_yes hl h1) (ev_pos rfl (ev_neg (by omega) (ev_neg (by omega) (ev_pos h2 (ev_pos h3 ?_))))))
  rw [h4]
  refine Ev.step (fun k => by rw [carve_taken.j0]) ?_
  refine ev_neg (by decide) (ev_pos h2 (ev_pos h3 (ev_bind (takes_ev ⟨by omega, by omega⟩) (ev_neg h5 (ev_bindc rfl ?_)))))
  rw [w64 (n := (rd_T45 l i).f0 + tk (rd_T45 l i).f1 need) (by omega), w64 (n := (rd_T45 l i).f1 - tk (rd_T45 l i).f1 need) (by omega)]
  unfold tkn
  refine ev_ite (fun c => ev_pos (by simp) ?_) (fun c => ?_)
  · rw [if_pos c]; exact Ev.now _
  · rw [if_neg c]; exact Ev.now _
def hWord (n : Int) (u : Bool) : Int := if 2 ≤ n ∧ n ≤ 512 then 2 * n + (if u then 1 else 0) else 0
def noughts (a k : Int) : Nat → List S57
  | 0 => []
  | n + 1 => ⟨a + k, 0⟩ :: noughts a (k + 1) n
theorem noughts_len (a : Int) (n : Nat) : ∀ k, (noughts a k n).length = n := by
  induction n with
  | zero => intro k; rfl
  | succ n ih => intro k; show (noughts a (k + 1) n).length + 1 = n + 1; rw [ih]
def eds (b : S45) (need : Int) : List S57 :=
  ⟨b.f0, hWord (tk b.f1 need) true⟩ :: (noughts b.f0 1 (tk b.f1 need - 1).toNat ++ (if tk b.f1 need < b.f1 then [⟨b.f0 + tk b.f1 need, hWord (b.f1 - tk b.f1 need) false⟩] else []))
theorem eds_l1 (l : List S45) (n b0 b1 : Int) (r : List S57) (u : Bool) (hb : 0 ≤ b0 ∧ b0 ≤ 1000 ∧ b1 ≤ 1000) (d : Nat) : ∀ (acc : List S57) (k : Int), 0 ≤ k → k + d = b1 → u = true → acc.length + d ≤ 100000 →
    Ev (fun j => carve_Edits.l0 j (acc ++ noughts b0 k d) l (l.length : Int) (wrap64 (n + 1))) r →
    Ev (fun j => carve_Edits.l1 j acc k l (l.length : Int) n b0 b1 u) r := by
  induction d with
  | zero =>
    intro acc k h0 h1 hu hl hg
    refine Ev.step (fun j => by rw [carve_Edits.l1]) ?_
    refine ev_neg (by omega) ?_
    have e : acc ++ noughts b0 k 0 = acc := List.append_nil _
    rwa [e] at hg
  | succ d ih =>
    intro acc k h0 h1 hu hl hg
    refine Ev.step (fun j => by rw [carve_Edits.l1]) ?_
    refine ev_pos (by omega) (ev_pos hu (ev_pos (by omega) ?_))
    rw [w64 (n := b0 + k) (by omega), w64 (n := k + 1) (by omega)]
    refine ih (acc ++ [⟨b0 + k, 0⟩]) (k + 1) (by omega) (by omega) hu (by simp; omega) ?_
    have e : acc ++ noughts b0 k (d + 1) = acc ++ [⟨b0 + k, 0⟩] ++ noughts b0 (k + 1) d := by
      show acc ++ (⟨b0 + k, 0⟩ :: noughts b0 (k + 1) d) = _
      simp
    rwa [e] at hg
theorem cedits_yes {l : List S45} {i need : Int} (hl : l.length ≤ 1000) (h : CanC l i need) : Ev (fun k => carve_Edits.f k l i need) (eds (rd_T45 l i) need) := by
  have hr := isb_rd h.1 h.2.1 h.2.2.1
  have ht := tk_r h.2.2.2.2 hr.2.1
  unfold carve_Edits.f
  refine ev_bind (taken_yes (by omega) h) ?_
  generalize hb : rd_T45 l i = b at hr ht
  unfold tkn eds
  generalize tk b.f1 need = t at ht
  by_cases c : t < b.f1
  · rw [if_pos c, if_pos c]
    have hL : (([⟨b.f0, t, true⟩, ⟨b.f0 + t, b.f1 - t, false⟩] : List S45).length : Int) = 2 := rfl
    refine Ev.step (fun j => by rw [carve_Edits.l0]) ?_
    refine ev_pos (by simp) (ev_pos (by decide) (ev_pos (by simp) ?_))
    rw [show rd_T45 ([⟨b.f0, t, true⟩, ⟨b.f0 + t, b.f1 - t, false⟩] : List S45) 0 = ⟨b.f0, t, true⟩ from rfl]
    refine ev_bindc (word_eq t true) (ev_pos (by simp) ?_)
    refine eds_l1 _ 0 b.f0 t _ true ⟨by omega, by omega, by omega⟩ (t - 1).toNat _ 1 (by omega) (by omega) rfl (by simp; omega) ?_
    refine Ev.step (fun j => by rw [carve_Edits.l0]) ?_
    rw [show wrap64 ((0 : Int) + 1) = 1 from w64 (by decide)]
    refine ev_pos (by simp) (ev_pos (by decide) (ev_pos (by simp) ?_))
    rw [show rd_T45 ([⟨b.f0, t, true⟩, ⟨b.f0 + t, b.f1 - t, false⟩] : List S45) 1 = ⟨b.f0 + t, b.f1 - t, false⟩ from rfl]
    refine ev_bindc (word_eq (b.f1 - t) false) (ev_pos (by rw [List.length_append, noughts_len]; simp; omega) ?_)
    refine Ev.step (fun j => by rw [carve_Edits.l1]) ?_
    refine ev_pos (by have := ht.2.2.1 c; dsimp only; omega) (ev_neg (by simp) ?_)
    refine Ev.step (fun j => by rw [carve_Edits.l0]) ?_
    rw [show wrap64 ((1 : Int) + 1) = 2 from w64 (by decide)]
    refine ev_neg (by simp) (ev_now ?_)
    unfold hWord
    simp
  · rw [if_neg c, if_neg c]
    refine Ev.step (fun j => by rw [carve_Edits.l0]) ?_
    refine ev_pos (by simp) (ev_pos (by decide) (ev_pos (by simp) ?_))
    rw [show rd_T45 ([⟨b.f0, t, true⟩] : List S45) 0 = ⟨b.f0, t, true⟩ from rfl]
    refine ev_bindc (word_eq t true) (ev_pos (by simp) ?_)
    refine eds_l1 _ 0 b.f0 t _ true ⟨by omega, by omega, by omega⟩ (t - 1).toNat _ 1 (by omega) (by omega) rfl (by simp; omega) ?_
    refine Ev.step (fun j => by rw [carve_Edits.l0]) ?_
    rw [show wrap64 ((0 : Int) + 1) = 1 from w64 (by decide)]
    refine ev_neg (by simp) (ev_now ?_)
    unfold hWord
    simp
theorem eds_len {b : S45} {need : Int} (h : 2 ≤ tk b.f1 need) : ((eds b need).length : Int) = tk b.f1 need + (if tk b.f1 need < b.f1 then 1 else 0) := by
  unfold eds
  rw [List.length_cons, List.length_append, noughts_len]
  split
  · simp only [List.length_cons, List.length_nil]; omega
  · simp only [List.length_nil]; omega
theorem c_split {l : List S45} {i : Int} (h0 : 0 ≤ i) (h1 : i < l.length) : l = l.take i.toNat ++ rd_T45 l i :: l.drop (i.toNat + 1) := by
  obtain ⟨h, e⟩ := rdt_get h0 h1
  rw [e, ← List.drop_eq_getElem_cons h]
  exact (List.take_append_drop _ _).symm
theorem crv_may {l : List S45} {i need words : Int} (hC : MayB l words) (h : CanC l i need) : MayB (crv l i need) words := by
  obtain ⟨h1, h2, h3, h4, h5⟩ := h
  have hr := isb_rd h1 h2 h3
  have ht := tk_r h5 hr.2.1
  have hc := hC.2
  rw [c_split h2 h3] at hc
  have hs := chain_snd _ _ hc
  obtain ⟨k0, k1, k2, k3, k4, k5⟩ := hs
  rw [h4] at k4 k5
  have hfr : lastFr false (l.take i.toNat) = false := by
    cases hf : lastFr false (l.take i.toNat) with
    | false => rfl
    | true => have := k4 hf; cases this
  have hq : ∀ q Q', l.drop (i.toNat + 1) = q :: Q' → q.f2 = true := by
    intro q Q' e
    rw [e] at k5
    exact k5.2.2.2.2.1 rfl
  refine ⟨hC.1, ?_⟩
  unfold crv
  rw [List.append_assoc]
  refine chain_re _ _ _ hc ?_
  rw [hfr]
  unfold tkn
  split
  · rename_i c
    have := ht.2.2.1 c
    refine ⟨k0, by dsimp only; omega, by dsimp only; omega, by dsimp only; omega, (fun hh => nomatch hh), ?_⟩
    refine ⟨by dsimp only; omega, by dsimp only; omega, by dsimp only; omega, by dsimp only; omega, (fun hh => nomatch hh), ?_⟩
    dsimp only
    have e : 0 + sumS (l.take i.toNat) + tk (rd_T45 l i).f1 need + ((rd_T45 l i).f1 - tk (rd_T45 l i).f1 need) = 0 + sumS (l.take i.toNat) + (rd_T45 l i).f1 := by omega
    rw [e]
    exact k5
  · rename_i c
    have e : tk (rd_T45 l i).f1 need = (rd_T45 l i).f1 := by omega
    refine ⟨k0, by dsimp only; omega, by dsimp only; omega, by dsimp only; omega, (fun hh => nomatch hh), ?_⟩
    dsimp only
    rw [e]
    exact chain_fr _ k5 hq
theorem canc_of {l : List S45} {i need words : Int} (hC : MayB l words) (h0 : 0 ≤ i) (h1 : i < l.length) (hn : 2 ≤ need) : CanC l i need ↔ ((rd_T45 l i).f2 = false ∧ need ≤ (rd_T45 l i).f1) := by
  have hB : IsB l := by unfold IsB; rw [← isb_of hC]; exact hC
  have hr := isb_rd hB h0 h1
  have hz := tk_zero (s := (rd_T45 l i).f1) (n := need) hr.2.1
  constructor
  · rintro ⟨_, _, _, h4, h5⟩
    refine ⟨h4, ?_⟩
    by_cases c : need ≤ (rd_T45 l i).f1
    · exact c
    · exact absurd (hz.2 (by omega)) h5
  · rintro ⟨h4, h5⟩
    exact ⟨hB, h0, h1, h4, fun e => by have := hz.1 e; omega⟩
def app : List Int → List S57 → List Int
  | v, [] => v
  | v, e :: es => app (if 0 ≤ e.f0 ∧ e.f0 < v.length then v.set e.f0.toNat e.f1 else v) es
theorem app_len (es : List S57) : ∀ v, (app v es).length = v.length := by
  induction es with
  | nil => intro v; rfl
  | cons e es ih =>
    intro v
    show (app _ es).length = _
    rw [ih]
    split
    · rw [List.length_set]
    · rfl
theorem app_app (es fs : List S57) : ∀ v, app v (es ++ fs) = app (app v es) fs := by
  induction es with
  | nil => intro v; rfl
  | cons e es ih => intro v; exact ih _
theorem app_wds (es : List S57) : ∀ v, Wds v → (∀ e ∈ es, 0 ≤ e.f1 ∧ e.f1 ≤ 18446744073709551615) → Wds (app v es) := by
  induction es with
  | nil => intro v h _; exact h
  | cons e es ih =>
    intro v h he
    refine ih _ ?_ (fun x hx => he x (List.mem_cons_of_mem _ hx))
    have := he e List.mem_cons_self
    split
    · exact wds_set h this.1 this.2
    · exact h
theorem rde_mid (pre suf : List S57) (x : S57) : rd_T57 (pre ++ x :: suf) (pre.length : Int) = x := by
  unfold rd_T57
  rw [List.getD_eq_getElem?_getD, Int.toNat_natCast, List.getElem?_append_right (by omega)]
  simp
theorem apply_l0 (es : List S57) (hl : es.length ≤ 100000) (suf : List S57) : ∀ (pre : List S57) (v : List Int), es = pre ++ suf → Ev (fun k => darningref4_Apply.l0 k v es (es.length : Int) (pre.length : Int)) (app v suf) := by
  induction suf with
  | nil =>
    intro pre v he
    refine Ev.step (fun k => by rw [darningref4_Apply.l0]) ?_
    exact ev_neg (by rw [he]; simp) (Ev.now _)
  | cons x suf ih =>
    intro pre v he
    have hlt : (pre.length : Int) < (es.length : Int) := by rw [he]; simp; omega
    have em : rd_T57 es (pre.length : Int) = x := by rw [he]; exact rde_mid pre suf x
    have w1 : wrap64 ((pre.length : Int) + 1) = ((pre ++ [x]).length : Int) := by rw [w64 (by omega)]; simp
    have go := fun v' => ih (pre ++ [x]) v' (by rw [he]; simp)
    refine Ev.step (fun k => by rw [darningref4_Apply.l0]) ?_
    rw [em, w1]
    refine ev_pos hlt (ev_pos (by omega) (ev_pos hlt (ev_ite (fun c => ev_ite (fun d => ev_pos c ?_) (fun d => ?_)) (fun c => ?_))))
    · have := go (v.set x.f0.toNat x.f1)
      show Ev _ (app (if 0 ≤ x.f0 ∧ x.f0 < v.length then v.set x.f0.toNat x.f1 else v) suf)
      rw [if_pos ⟨c, d⟩]
      exact this
    · show Ev _ (app (if 0 ≤ x.f0 ∧ x.f0 < v.length then v.set x.f0.toNat x.f1 else v) suf)
      rw [if_neg (fun h => d h.2)]
      exact go v
    · show Ev _ (app (if 0 ≤ x.f0 ∧ x.f0 < v.length then v.set x.f0.toNat x.f1 else v) suf)
      rw [if_neg (fun h => c h.1)]
      exact go v
theorem apply_ev {v : List Int} {es : List S57} (hv : v.length ≤ 100000) (hl : es.length ≤ 100000) : Ev (fun k => darningref4_Apply.f k v es) (app v es) := by
  unfold darningref4_Apply.f
  refine ev_pos (by simp only [List.length_nil]; omega) ?_
  rw [List.nil_append]
  exact apply_l0 es hl es [] v rfl
theorem app_nou (a : Int) (n : Nat) (ha : 0 ≤ a) : ∀ (v : List Int) (k j : Int), 0 ≤ k → a + k + n ≤ v.length → 0 ≤ j → rd (app v (noughts a k n)) j = if a + k ≤ j ∧ j < a + k + n then 0 else rd v j := by
  induction n with
  | zero => intro v k j h0 h1 h2; rw [if_neg (by omega)]; rfl
  | succ n ih =>
    intro v k j h0 h1 h2
    show rd (app (if 0 ≤ a + k ∧ a + k < v.length then v.set (a + k).toNat 0 else v) (noughts a (k + 1) n)) j = _
    rw [if_pos (by omega), ih _ (k + 1) j (by omega) (by rw [List.length_set]; omega) h2, rd_set _ _ (by omega)]
    by_cases c : j = a + k
    · rw [if_neg (by omega), if_pos (by omega), if_pos (by omega)]
    · rw [if_neg (show ¬ j.toNat = (a + k).toNat by omega)]
      by_cases d : a + (k + 1) ≤ j ∧ j < a + (k + 1) + n
      · rw [if_pos d, if_pos (by omega)]
      · rw [if_neg d, if_neg (by omega)]
theorem nou_mem {a : Int} {n : Nat} : ∀ {k : Int} {e : S57}, e ∈ noughts a k n → e.f1 = 0 := by
  induction n with
  | zero => intro k e h; cases h
  | succ n ih =>
    intro k e h
    rcases List.mem_cons.1 h with h | h
    · rw [h]
    · exact ih h
theorem hw_of {n : Int} {u : Bool} (h : 2 ≤ n ∧ n ≤ 512) : hWord n u = 2 * n + (if u = true then 1 else 0) := by
  unfold hWord
  rw [if_pos h]
theorem eds_rd {v : List Int} {b : S45} {need : Int} (hb : 0 ≤ b.f0) (hv : b.f0 + b.f1 ≤ v.length) (h2 : 2 ≤ tk b.f1 need) (ht : tk b.f1 need ≤ b.f1) {j : Int} (h0 : 0 ≤ j) :
    rd (app v (eds b need)) j = if j = b.f0 + tk b.f1 need ∧ tk b.f1 need < b.f1 then hWord (b.f1 - tk b.f1 need) false else if b.f0 < j ∧ j < b.f0 + tk b.f1 need then 0 else if j = b.f0 then hWord (tk b.f1 need) true else rd v j := by
  unfold eds
  show rd (app (if 0 ≤ b.f0 ∧ b.f0 < v.length then v.set b.f0.toNat (hWord (tk b.f1 need) true) else v) _) j = _
  rw [if_pos (by omega), app_app]
  have hn : ∀ i : Int, 0 ≤ i → rd (app (v.set b.f0.toNat (hWord (tk b.f1 need) true)) (noughts b.f0 1 (tk b.f1 need - 1).toNat)) i = if b.f0 < i ∧ i < b.f0 + tk b.f1 need then 0 else if i = b.f0 then hWord (tk b.f1 need) true else rd v i := by
    intro i hi
    rw [app_nou b.f0 _ hb _ 1 i (by omega) (by rw [List.length_set]; omega) hi, rd_set _ _ (by omega)]
    by_cases c : b.f0 < i ∧ i < b.f0 + tk b.f1 need
    · rw [if_pos c, if_pos (by omega)]
    · rw [if_neg c, if_neg (by omega)]
      by_cases d : i = b.f0
      · rw [if_pos d, if_pos (by omega)]
      · rw [if_neg d, if_neg (by omega)]
  by_cases c : tk b.f1 need < b.f1
  · rw [if_pos c]
    show rd (if 0 ≤ b.f0 + tk b.f1 need ∧ b.f0 + tk b.f1 need < _ then (app (v.set b.f0.toNat (hWord (tk b.f1 need) true)) (noughts b.f0 1 (tk b.f1 need - 1).toNat)).set (b.f0 + tk b.f1 need).toNat (hWord (b.f1 - tk b.f1 need) false) else _) j = _
    rw [if_pos (by rw [app_len, List.length_set]; omega), rd_set _ _ (by rw [app_len, List.length_set]; omega)]
    by_cases d : j = b.f0 + tk b.f1 need
    · rw [if_pos (by omega), if_pos ⟨d, c⟩]
    · rw [if_neg (by omega), if_neg (fun h => d h.1), hn j h0]
  · rw [if_neg c, if_neg (fun h => c h.2)]
    exact hn j h0
theorem eds_wds (b : S45) (need : Int) : ∀ e ∈ eds b need, 0 ≤ e.f1 ∧ e.f1 ≤ 18446744073709551615 := by
  have hh : ∀ (n : Int) (u : Bool), 0 ≤ hWord n u ∧ hWord n u ≤ 18446744073709551615 := by
    intro n u
    unfold hWord
    split
    · split <;> omega
    · omega
  intro e he
  unfold eds at he
  rcases List.mem_cons.1 he with he | he
  · rw [he]; exact hh _ _
  · rcases List.mem_append.1 he with he | he
    · rw [nou_mem he]; omega
    · split at he
      · rw [List.mem_singleton.1 he]; exact hh _ _
      · cases he
theorem crv_heads {l : List S45} {i need words : Int} {v : List Int} (hC : MayB l words) (h : CanC l i need) (hv : (v.length : Int) = words) (hH : ∀ b ∈ l, rd v b.f0 = headOf b) : ∀ b ∈ crv l i need, rd (app v (eds (rd_T45 l i) need)) b.f0 = headOf b := by
  obtain ⟨h1, h2, h3, h4, h5⟩ := h
  have hr := isb_rd h1 h2 h3
  have ht := tk_r h5 hr.2.1
  have hrw := chain_rd hC.2 h2 h3
  have hw := hC.1
  unfold MayW at hw
  have hup := chain_up hC.2
  have hl := c_split h2 h3
  have hlm : ∀ b ∈ l.take i.toNat, b ∈ l := fun b hb => List.mem_of_mem_take hb
  have hdm : ∀ b ∈ l.drop (i.toNat + 1), b ∈ l := fun b hb => List.mem_of_mem_drop hb
  rw [hl] at hup
  rw [List.pairwise_append] at hup
  intro b hb
  have rdv := fun (j : Int) (j0 : 0 ≤ j) => eds_rd (v := v) (b := rd_T45 l i) (need := need) hr.1 (by omega) ht.1 ht.2.1 j0
  unfold crv at hb
  rcases List.mem_append.1 hb with hb | hb
  · rcases List.mem_append.1 hb with hb | hb
    · have hx := hup.2.2 b hb _ List.mem_cons_self
      have hm := chain_mem hC.2 b (hlm b hb)
      rw [rdv b.f0 (by omega), if_neg (by omega), if_neg (by omega), if_neg (by omega)]
      exact hH b (hlm b hb)
    · unfold tkn at hb
      rcases List.mem_cons.1 hb with hb | hb
      · rw [hb]
        dsimp only
        rw [rdv _ (by omega), if_neg (by omega), if_neg (by omega), if_pos rfl, hw_of (by omega)]
        rfl
      · split at hb
        · rename_i c
          have := ht.2.2.1 c
          rw [List.mem_singleton.1 hb]
          dsimp only
          rw [rdv _ (by omega), if_pos ⟨rfl, c⟩, hw_of (by omega)]
          rfl
        · cases hb
  · have hx := (List.pairwise_cons.1 hup.2.1).1 b hb
    have hm := chain_mem hC.2 b (hdm b hb)
    rw [rdv b.f0 (by omega), if_neg (by omega), if_neg (by omega), if_neg (by omega)]
    exact hH b (hdm b hb)
theorem rdt_pre (P R : List S45) {j : Int} (h0 : 0 ≤ j) (h1 : j < P.length) : rd_T45 (P ++ R) j = rd_T45 P j := by
  unfold rd_T45
  rw [List.getD_eq_getElem?_getD, List.getD_eq_getElem?_getD, List.getElem?_append_left (by omega)]
def Wf (l : List S45) : Prop := l.length ≤ 1000 ∧ ∀ j : Int, -9223372036854775808 ≤ (rd_T45 l j).f0 ∧ (rd_T45 l j).f0 ≤ 9223372036854775807 ∧ -9223372036854775808 ≤ (rd_T45 l j).f1 ∧ (rd_T45 l j).f1 ≤ 9223372036854775807
def OkB (l : List S45) (need j : Int) : Prop := (rd_T45 l j).f2 = false ∧ need ≤ (rd_T45 l j).f1
structure FitsP (l : List S45) (need i : Int) (out : List Int) : Prop where
  ok : ∀ x ∈ out, 0 ≤ x ∧ x < i ∧ OkB l need x ∧ ∀ j : Int, 0 ≤ j → j < i → OkB l need j → (rd_T45 l x).f1 ≤ (rd_T45 l j).f1
  all : ∀ x : Int, 0 ≤ x → x < i → OkB l need x → (∀ j : Int, 0 ≤ j → j < i → OkB l need j → (rd_T45 l x).f1 ≤ (rd_T45 l j).f1) → x ∈ out
  none : out = [] → ∀ j : Int, 0 ≤ j → j < i → ¬ OkB l need j
  len : (out.length : Int) ≤ i
  up : out.Pairwise (· < ·)
theorem FitsP.zero (l : List S45) (need : Int) : FitsP l need 0 [] :=
  ⟨fun x h => absurd h (by simp), fun x h0 h1 => by omega, fun _ j h0 h1 => by omega, by simp, List.Pairwise.nil⟩
theorem FitsP.skip {l : List S45} {need i : Int} {out : List Int} (h : FitsP l need i out) (hn : ¬ OkB l need i) : FitsP l need (i + 1) out := by
  have hj : ∀ j : Int, j < i + 1 → OkB l need j → j < i := fun j h1 h2 => by
    by_cases e : j = i
    · subst e; exact absurd h2 hn
    · omega
  refine ⟨fun x hx => ?_, fun x h0 h1 h2 h3 => ?_, fun h0 j h1 h2 h3 => ?_, by have := h.len; omega, h.up⟩
  · obtain ⟨a, b, c, d⟩ := h.ok x hx
    exact ⟨a, by omega, c, fun j h0 h1 h2 => d j h0 (hj j h1 h2) h2⟩
  · exact h.all x h0 (hj x h1 h2) h2 (fun j h4 h5 h6 => h3 j h4 (by omega) h6)
  · exact h.none h0 j h1 (hj j h2 h3) h3
theorem FitsP.first {l : List S45} {need i : Int} (hi : 0 ≤ i) (h : FitsP l need i []) (ho : OkB l need i) : FitsP l need (i + 1) [i] := by
  have hj : ∀ j : Int, 0 ≤ j → j < i + 1 → OkB l need j → j = i := fun j h0 h1 h2 => by
    by_cases e : j = i
    · exact e
    · exact absurd h2 (h.none rfl j h0 (by omega))
  refine ⟨fun x hx => ?_, fun x h0 h1 h2 h3 => ?_, fun h0 => by simp at h0, by simp; omega, by simp⟩
  · have hx := List.mem_singleton.1 hx
    subst hx
    exact ⟨hi, by omega, ho, fun j h0 h1 h2 => by rw [hj j h0 h1 h2]; exact Int.le_refl _⟩
  · rw [hj x h0 h1 h2]; simp
theorem FitsP.head {l : List S45} {need i : Int} {a : Int} {out : List Int} (h : FitsP l need i (a :: out)) : 0 ≤ a ∧ a < i ∧ OkB l need a ∧ ∀ x ∈ a :: out, (rd_T45 l x).f1 = (rd_T45 l a).f1 := by
  obtain ⟨h0, h1, h2, h3⟩ := h.ok a (by simp)
  refine ⟨h0, h1, h2, fun x hx => ?_⟩
  obtain ⟨g0, g1, g2, g3⟩ := h.ok x hx
  have := h3 x g0 g1 g2
  have := g3 a h0 h1 h2
  omega
theorem FitsP.less {l : List S45} {need i : Int} {a : Int} {out : List Int} (h : FitsP l need i (a :: out)) (ho : OkB l need i) (hs : (rd_T45 l i).f1 < (rd_T45 l a).f1) : FitsP l need (i + 1) [i] := by
  obtain ⟨h0, h1, h2, h3⟩ := h.ok a (by simp)
  refine ⟨fun x hx => ?_, fun x g0 g1 g2 g3 => ?_, fun h0 => by simp at h0, by simp; omega, by simp⟩
  · have hx := List.mem_singleton.1 hx
    subst hx
    refine ⟨by omega, by omega, ho, fun j g0 g1 g2 => ?_⟩
    by_cases e : j = x
    · subst e; exact Int.le_refl _
    · have := h3 j g0 (by omega) g2; omega
  · by_cases e : x = i
    · subst e; simp
    · exfalso
      have := h3 x g0 (by omega) g2
      have := g3 i (by omega) (by omega) ho
      omega
theorem FitsP.same {l : List S45} {need i : Int} {a : Int} {out : List Int} (h : FitsP l need i (a :: out)) (ho : OkB l need i) (hs : (rd_T45 l i).f1 = (rd_T45 l a).f1) : FitsP l need (i + 1) ((a :: out) ++ [i]) := by
  obtain ⟨h0, h1, h2, h3⟩ := h.ok a (by simp)
  have hh := h.head.2.2.2
  refine ⟨fun x hx => ?_, fun x g0 g1 g2 g3 => ?_, fun h0 => by simp at h0, by have := h.len; simp at this ⊢; omega, ?_⟩
  · have key : ∀ j : Int, 0 ≤ j → j < i + 1 → OkB l need j → (rd_T45 l a).f1 ≤ (rd_T45 l j).f1 := fun j g0 g1 g2 => by
      by_cases e : j = i
      · subst e; omega
      · exact h3 j g0 (by omega) g2
    rcases List.mem_append.1 hx with hx | hx
    · obtain ⟨k0, k1, k2, _⟩ := h.ok x hx
      exact ⟨k0, by omega, k2, fun j g0 g1 g2 => by rw [hh x hx]; exact key j g0 g1 g2⟩
    · have hx := List.mem_singleton.1 hx
      subst hx
      exact ⟨by omega, by omega, ho, fun j g0 g1 g2 => by rw [hs]; exact key j g0 g1 g2⟩
  · by_cases e : x = i
    · subst e; simp
    · exact List.mem_append_left _ (h.all x g0 (by omega) g2 (fun j k0 k1 k2 => g3 j k0 (by omega) k2))
  · refine List.pairwise_append.2 ⟨h.up, by simp, fun x hx y hy => ?_⟩
    have hy := List.mem_singleton.1 hy
    subst hy
    exact (h.ok x hx).2.1
theorem FitsP.more {l : List S45} {need i : Int} {a : Int} {out : List Int} (h : FitsP l need i (a :: out)) (hs : (rd_T45 l a).f1 < (rd_T45 l i).f1) : FitsP l need (i + 1) (a :: out) := by
  obtain ⟨h0, h1, h2, h3⟩ := h.ok a (by simp)
  have hh := h.head.2.2.2
  refine ⟨fun x hx => ?_, fun x g0 g1 g2 g3 => ?_, fun h0 => by simp at h0, by have := h.len; omega, h.up⟩
  · obtain ⟨k0, k1, k2, k3⟩ := h.ok x hx
    refine ⟨k0, by omega, k2, fun j g0 g1 g2 => ?_⟩
    by_cases e : j = i
    · subst e; have := hh x hx; omega
    · exact k3 j g0 (by omega) g2
  · by_cases e : x = i
    · subst e
      have := g3 a h0 (by omega) h2
      omega
    · exact h.all x g0 (by omega) g2 (fun j k0 k1 k2 => g3 j k0 (by omega) k2)
theorem rd_head (a : Int) (out : List Int) : rd (a :: out) 0 = a := rfl
theorem fits_l0 {l : List S45} {need : Int} (hl : Wf l) (hn : 2 ≤ need) (d : Nat) : ∀ (i : Int) (out : List Int), 0 ≤ i → i + d = l.length → FitsP l need i out →
    ∃ r, Ev (fun k => fit_Fits.l0 k l need out l (l.length : Int) i) r ∧ FitsP l need l.length r := by
  have hlen := hl.1
  induction d with
  | zero =>
    intro i out h0 hd h
    have e : i = (l.length : Int) := by omega
    subst e
    exact ⟨out, Ev.step (fun k => by rw [fit_Fits.l0]) (ev_neg (by omega) (Ev.now _)), h⟩
  | succ d ih =>
    intro i out h0 hd h
    have hlt : i < (l.length : Int) := by omega
    have hol := h.len
    by_cases ho : OkB l need i
    · have enter : ∀ r, Ev (fun k => fit_Fits.j1 k l need out i l (l.length : Int) i false ((rd_T45 l i).f0) ((rd_T45 l i).f1) ((rd_T45 l i).f2)) r → Ev (fun k => fit_Fits.l0 k l need out l (l.length : Int) i) r := by
        intro r hr
        refine Ev.step (fun k => by rw [fit_Fits.l0]) ?_
        refine ev_pos hlt (ev_pos h0 (ev_pos hlt (ev_neg (by omega) (ev_neg (by rw [ho.1]; decide) ?_))))
        rw [decide_eq_false (by have := ho.2; omega)]
        exact hr
      cases out with
      | nil =>
        obtain ⟨r, hr, hp⟩ := ih (i + 1) [i] (by omega) (by omega) (h.first h0 ho)
        refine ⟨r, enter r ?_, hp⟩
        refine Ev.step (fun k => by rw [fit_Fits.j1]) (ev_neg (by decide) (ev_neg (by decide) ?_))
        refine Ev.step (fun k => by rw [fit_Fits.j2]) (ev_neg (by decide) (ev_pos (by decide) (ev_pos (by decide) ?_)))
        rw [w64 (n := i + 1) (by omega)]
        exact hr
      | cons a out =>
        obtain ⟨a0, a1, a2, a3⟩ := h.head
        have go : ∀ r (b : Bool), b = decide ((rd_T45 l i).f1 < (rd_T45 l a).f1) → Ev (fun k => fit_Fits.j2 k l need (a :: out) i l (l.length : Int) i b ((rd_T45 l i).f0) ((rd_T45 l i).f1) ((rd_T45 l i).f2)) r →
            Ev (fun k => fit_Fits.j1 k l need (a :: out) i l (l.length : Int) i false ((rd_T45 l i).f0) ((rd_T45 l i).f1) ((rd_T45 l i).f2)) r := by
          intro r b hb hr
          refine Ev.step (fun k => by rw [fit_Fits.j1]) (ev_neg (by decide) (ev_pos (by simp) (ev_pos (by simp) ?_)))
          rw [rd_head]
          refine ev_pos a0 (ev_pos (by omega) ?_)
          rw [← hb]
          exact hr
        by_cases c1 : (rd_T45 l i).f1 < (rd_T45 l a).f1
        · obtain ⟨r, hr, hp⟩ := ih (i + 1) [i] (by omega) (by omega) (h.less ho c1)
          refine ⟨r, enter r (go r true (by rw [decide_eq_true c1]) ?_), hp⟩
          refine Ev.step (fun k => by rw [fit_Fits.j2]) (ev_pos rfl (ev_pos (by decide) ?_))
          rw [w64 (n := i + 1) (by omega)]
          exact hr
        · by_cases c2 : (rd_T45 l i).f1 = (rd_T45 l a).f1
          · obtain ⟨r, hr, hp⟩ := ih (i + 1) ((a :: out) ++ [i]) (by omega) (by omega) (h.same ho c2)
            refine ⟨r, enter r (go r false (by rw [decide_eq_false c1]) ?_), hp⟩
            refine Ev.step (fun k => by rw [fit_Fits.j2]) (ev_neg (by decide) (ev_neg (by simp; omega) (ev_pos (by simp) ?_)))
            rw [rd_head, w64 (n := i + 1) (by omega)]
            refine ev_pos a0 (ev_pos (by omega) (ev_pos c2 (ev_pos (by omega) hr)))
          · obtain ⟨r, hr, hp⟩ := ih (i + 1) (a :: out) (by omega) (by omega) (h.more (by omega))
            refine ⟨r, enter r (go r false (by rw [decide_eq_false c1]) ?_), hp⟩
            refine Ev.step (fun k => by rw [fit_Fits.j2]) (ev_neg (by decide) (ev_neg (by simp; omega) (ev_pos (by simp) ?_)))
            rw [rd_head, w64 (n := i + 1) (by omega)]
            exact ev_pos a0 (ev_pos (by omega) (ev_neg c2 hr))
    · obtain ⟨r, hr, hp⟩ := ih (i + 1) out (by omega) (by omega) (h.skip ho)
      refine ⟨r, Ev.step (fun k => by rw [fit_Fits.l0]) ?_, hp⟩
      have j1 : Ev (fun k => fit_Fits.j1 k l need out i l (l.length : Int) i true ((rd_T45 l i).f0) ((rd_T45 l i).f1) ((rd_T45 l i).f2)) r := by
        refine Ev.step (fun k => by rw [fit_Fits.j1]) (ev_pos rfl ?_)
        rw [w64 (n := i + 1) (by omega)]
        exact hr
      refine ev_pos hlt (ev_pos h0 (ev_pos hlt (ev_neg (by omega) ?_)))
      refine ev_ite (fun _ => j1) (fun c => ?_)
      rw [decide_eq_true (show (rd_T45 l i).f1 < need from by
        have : ¬ (need ≤ (rd_T45 l i).f1) := fun hh => ho ⟨by simpa using c, hh⟩
        omega)]
      exact j1
theorem fits_ev {l : List S45} {need : Int} (hl : Wf l) (hn : 2 ≤ need) : ∃ r, Ev (fun k => fit_Fits.f k l need) r ∧ FitsP l need l.length r :=
  fits_l0 hl hn l.length 0 [] (by omega) (by omega) (FitsP.zero l need)
def cntS (at_ : Int) (counts : List Int) : Int := if at_ < 0 ∨ (counts.length : Int) ≤ at_ / 32 then 0 else rd counts (at_ / 32)
theorem count_eq {a b : Int} {c : Bool} {counts : List Int} (h1 : a ≤ 9223372036854775807) : fit_count.f a b c counts = some (cntS a counts) := by
  unfold fit_count.f cntS
  by_cases h : a < 0
  · rw [if_pos h, if_pos (Or.inl h)]
  · rw [if_neg h, tdivp (by omega), w64 (n := a / 32) (by omega)]
    by_cases h2 : a / 32 ≥ (counts.length : Int)
    · rw [if_pos h2, if_pos (Or.inr h2)]
    · rw [if_neg h2, if_pos (by omega), if_pos (by omega), if_neg (by omega)]
def Leq (l : List S45) (counts : List Int) (x y : Int) : Prop :=
  cntS (rd_T45 l x).f0 counts < cntS (rd_T45 l y).f0 counts ∨ (cntS (rd_T45 l x).f0 counts = cntS (rd_T45 l y).f0 counts ∧ (rd_T45 l x).f0 ≤ (rd_T45 l y).f0)
def ChooseP (l : List S45) (counts out : List Int) (c : Int) : Prop := (out = [] ∧ c = -1) ∨ (c ∈ out ∧ ∀ y ∈ out, Leq l counts c y)
theorem rd_mid (pre suf : List Int) (x : Int) : rd (pre ++ x :: suf) (pre.length : Int) = x := by
  unfold rd
  rw [List.getD_eq_getElem?_getD, Int.toNat_natCast, List.getElem?_append_right (by omega)]
  simp
theorem choose_l0 {l : List S45} {counts : List Int} (hl : Wf l) (suf : List Int) : ∀ (pre : List Int) (best : Int), (∀ x ∈ pre ++ suf, 0 ≤ x ∧ x < l.length) → (pre ++ suf).length ≤ 1000 → ChooseP l counts pre best →
    ∃ r, Ev (fun k => fit_Choose.l0 k l counts best (pre ++ suf) ((pre ++ suf).length : Int) (pre.length : Int)) r ∧ ChooseP l counts (pre ++ suf) r := by
  induction suf with
  | nil =>
    intro pre best hr hlen h
    refine ⟨best, Ev.step (fun k => by rw [fit_Choose.l0]) (ev_neg (by simp) (Ev.now _)), by simpa using h⟩
  | cons x suf ih =>
    intro pre best hr hlen h
    have hx := hr x (by simp)
    have e : pre ++ x :: suf = (pre ++ [x]) ++ suf := by simp
    have hlen2 : ((pre ++ [x]).length : Int) = (pre.length : Int) + 1 := by simp
    have hlt : (pre.length : Int) < ((pre ++ x :: suf).length : Int) := by simp; omega
    have next : ∀ b, ChooseP l counts (pre ++ [x]) b → ∃ r, Ev (fun k => fit_Choose.l0 k l counts b (pre ++ x :: suf) ((pre ++ x :: suf).length : Int) ((pre.length : Int) + 1)) r ∧ ChooseP l counts (pre ++ x :: suf) r := by
      intro b hb
      have := ih (pre ++ [x]) b (by rw [← e]; exact hr) (by rw [← e]; exact hlen) hb
      rw [hlen2, ← e] at this
      exact this
    have w1 : wrap64 ((pre.length : Int) + 1) = (pre.length : Int) + 1 := w64 (by simp at hlen; omega)
    rcases h with ⟨rfl, rfl⟩ | ⟨hm, hall⟩
    · obtain ⟨r, h1, h2⟩ := next x (Or.inr ⟨by simp, fun y hy => by simp at hy; subst hy; exact Or.inr ⟨rfl, Int.le_refl _⟩⟩)
      refine ⟨r, Ev.step (fun k => by rw [fit_Choose.l0]) ?_, h2⟩
      rw [rd_mid, w1]
      exact ev_pos hlt (ev_pos (by omega) (ev_pos hlt (ev_pos (by omega) h1)))
    · have hb := hr best (by simp [hm])
      have fx := hl.2 x
      have fb := hl.2 best
      have cx := count_eq (b := (rd_T45 l x).f1) (c := (rd_T45 l x).f2) (counts := counts) fx.2.1
      have cb := count_eq (b := (rd_T45 l best).f1) (c := (rd_T45 l best).f2) (counts := counts) fb.2.1
      by_cases c1 : cntS (rd_T45 l x).f0 counts < cntS (rd_T45 l best).f0 counts ∨ (cntS (rd_T45 l x).f0 counts = cntS (rd_T45 l best).f0 counts ∧ (rd_T45 l x).f0 < (rd_T45 l best).f0)
      · obtain ⟨r, h1, h2⟩ := next x (Or.inr ⟨by simp, fun y hy => by
          rcases List.mem_append.1 hy with hy | hy
          · have := hall y hy
            unfold Leq at this ⊢
            omega
          · simp at hy; subst hy; exact Or.inr ⟨rfl, Int.le_refl _⟩⟩)
        refine ⟨r, Ev.step (fun k => by rw [fit_Choose.l0]) ?_, h2⟩
        rw [rd_mid, w1]
        refine ev_pos hlt (ev_pos (by omega) (ev_pos hlt (ev_neg (by omega) (ev_pos hx.1 (ev_pos hx.2 (ev_bindc cx (ev_pos hb.1 (ev_pos hb.2 (ev_bindc cb ?_)))))))))
        rcases c1 with c1 | c1
        · exact ev_pos c1 h1
        · exact ev_neg (by omega) (ev_pos c1.1 (ev_pos c1.2 h1))
      · obtain ⟨r, h1, h2⟩ := next best (Or.inr ⟨by simp [hm], fun y hy => by
          rcases List.mem_append.1 hy with hy | hy
          · exact hall y hy
          · simp at hy; subst hy; unfold Leq; omega⟩)
        refine ⟨r, Ev.step (fun k => by rw [fit_Choose.l0]) ?_, h2⟩
        rw [rd_mid, w1]
        refine ev_pos hlt (ev_pos (by omega) (ev_pos hlt (ev_neg (by omega) (ev_pos hx.1 (ev_pos hx.2 (ev_bindc cx (ev_pos hb.1 (ev_pos hb.2 (ev_bindc cb ?_)))))))))
        refine ev_neg (by omega) ?_
        refine ev_ite (fun c2 => ev_neg (by omega) h1) (fun _ => h1)
theorem choose_ev {l : List S45} {need : Int} {counts : List Int} (hl : Wf l) (hn : 2 ≤ need) : ∃ out r, Ev (fun k => fit_Fits.f k l need) out ∧ FitsP l need l.length out ∧ Ev (fun k => fit_Choose.f k l need counts) r ∧ ChooseP l counts out r := by
  obtain ⟨out, h1, h2⟩ := fits_ev hl hn
  have hlen := hl.1
  obtain ⟨r, h3, h4⟩ := choose_l0 (counts := counts) hl out [] (-1) (fun x hx => by
    have := h2.ok x (by simpa using hx); exact ⟨this.1, this.2.1⟩) (by have := h2.len; simp; omega) (Or.inl ⟨rfl, rfl⟩)
  refine ⟨out, r, h1, h2, ?_, h4⟩
  unfold fit_Choose.f
  exact ev_bind h1 h3
theorem chosen {l : List S45} {need : Int} {counts out : List Int} {c : Int} (hf : FitsP l need l.length out) (hc : ChooseP l counts out c) :
    (c = -1 ∧ out = [] ∧ ∀ j : Int, 0 ≤ j → j < l.length → ¬ OkB l need j) ∨
    (0 ≤ c ∧ c < l.length ∧ OkB l need c ∧ c ∈ out ∧ (∀ y ∈ out, Leq l counts c y) ∧ ∀ j : Int, 0 ≤ j → j < l.length → OkB l need j → (rd_T45 l c).f1 ≤ (rd_T45 l j).f1) := by
  rcases hc with ⟨h1, h2⟩ | ⟨h1, h2⟩
  · exact Or.inl ⟨h2, h1, hf.none h1⟩
  · obtain ⟨a, b, c, d⟩ := hf.ok _ h1
    exact Or.inr ⟨a, b, c, h1, h2, d⟩
def HV (l : List S45) (v : List Int) (words : Int) : Prop := MayB l words ∧ Wds v ∧ (v.length : Int) = words ∧ ∀ b ∈ l, rd v b.f0 = headOf b
theorem hv_blocks {l : List S45} {v : List Int} {words : Int} (h : HV l v words) : Ev (fun k => chain_Blocks.f k v) (l, true) :=
  blocks_yes h.2.1 (parse_of (fr := false) (by rw [h.2.2.1]; exact h.1.2) h.2.2.2) (by rw [h.2.2.1]; exact h.1)
theorem hv_crv {l : List S45} {v : List Int} {words i need : Int} (h : HV l v words) (hc : CanC l i need) : HV (crv l i need) (app v (eds (rd_T45 l i) need)) words :=
  ⟨crv_may h.1 hc, app_wds _ _ h.2.1 (eds_wds _ _), by rw [app_len]; exact h.2.2.1, crv_heads h.1 hc h.2.2.1 h.2.2.2⟩
theorem hv_mrg {l : List S45} {v : List Int} {words i : Int} (h : HV l v words) (hc : Can l i) : HV (mrg l i) (v.set (rd_T45 l (mFrom l i)).f0.toNat (hWordM (sumS (mM l i)) false)) words := by
  obtain ⟨hC, hW, hlen, hH⟩ := h
  obtain ⟨hB, x0, x1, hu⟩ := hc
  have hi : 0 ≤ i ∧ i < l.length := ⟨x0, x1⟩
  have hwd := hC.1
  unfold MayW at hwd
  have hM := mrg_may hC hi hu
  have ft := from_to hi
  have hrf := isb_rd hB (i := mFrom l i) ft.1 (by omega)
  have hrw := chain_rd hC.2 (j := mFrom l i) ft.1 (by omega)
  have hcm := hM.2
  have hmid : mrg l i = mP l i ++ ⟨(rd_T45 l (mFrom l i)).f0, sumS (mM l i), false⟩ :: mQ l i := by
    unfold mrg
    rw [List.append_assoc]
    rfl
  rw [hmid] at hcm
  have hs2 := (chain_mem hcm ⟨(rd_T45 l (mFrom l i)).f0, sumS (mM l i), false⟩ (by simp))
  dsimp only at hs2
  have hwd2 : hWordM (sumS (mM l i)) false = 2 * sumS (mM l i) := by
    unfold hWordM
    rw [if_pos ⟨hs2.2.1, hs2.2.2.1⟩]
    simp
  rw [hwd2]
  have hup := chain_up hcm
  rw [List.pairwise_append] at hup
  refine ⟨hM, wds_set hW (by omega) (by omega), by rw [List.length_set]; exact hlen, ?_⟩
  intro b hb
  rw [hmid] at hb
  have old : b ∈ l → b.f0 ≠ (rd_T45 l (mFrom l i)).f0 → rd (v.set (rd_T45 l (mFrom l i)).f0.toNat (2 * sumS (mM l i))) b.f0 = headOf b := by
    intro hbl hne
    have hbm := chain_mem hC.2 b hbl
    rw [rd_set _ _ (by omega), if_neg (by omega)]
    exact hH b hbl
  rcases List.mem_append.1 hb with hb | hb
  · have h1 := hup.2.2 b hb _ List.mem_cons_self
    have h2 : b ∈ l := by rw [m_split hi]; exact List.mem_append_left _ (List.mem_append_left _ hb)
    have h3 := chain_mem hC.2 b h2
    exact old h2 (by dsimp only at h1; omega)
  · rcases List.mem_cons.1 hb with hb | hb
    · rw [hb]
      dsimp only
      rw [rd_set _ _ (by omega), if_pos rfl]
      unfold headOf
      simp
    · have h1 := (List.pairwise_cons.1 hup.2.1).1 b hb
      have h2 : b ∈ l := by rw [m_split hi]; exact List.mem_append_right _ hb
      exact old h2 (by dsimp only at h1; omega)
def needS (n : Int) : Int := if n < 1 ∨ n > 448 then 0 else (n + 7) / 8 + 1
theorem need_eq (n : Int) : fit_Need.f n = some (needS n) := by
  unfold fit_Need.f needS
  by_cases h1 : n < 1
  · rw [if_pos h1, if_pos (.inl h1)]
  · by_cases h2 : n > 448
    · rw [if_neg h1, if_pos h2, if_pos (.inr h2)]
    · rw [if_neg h1, if_neg h2, if_neg (by omega), w64 (n := n + 7) (by omega), tdivp (by omega), w64 (n := (n + 7) / 8) (by omega), w64 (by omega)]
theorem need_r (n : Int) : needS n = 0 ∨ (2 ≤ needS n ∧ needS n ≤ 57) := by
  unfold needS
  split
  · exact .inl rfl
  · right; omega
theorem offv_in {a : Int} (h : 0 ≤ a ∧ a ≤ 512) : offV a = (a + 1) * 8 := by
  unfold offV
  rw [if_neg (by omega), if_neg (by omega), w64 (n := a + 1) (by omega), w64 (by omega)]
theorem wf_may {l : List S45} {words : Int} (h : MayB l words) (hl : l.length ≤ 1000) : Wf l := by
  refine ⟨hl, fun j => ?_⟩
  have hw := h.1
  unfold MayW at hw
  have e : rd_T45 l j = rd_T45 l (j.toNat : Int) := by unfold rd_T45; rw [Int.toNat_natCast]
  rw [e]
  by_cases hj : j.toNat < l.length
  · have := chain_rd h.2 (j := (j.toNat : Int)) (by omega) (by omega)
    omega
  · unfold rd_T45
    rw [List.getD_eq_getElem?_getD, Int.toNat_natCast, List.getElem?_eq_none (by omega)]
    exact ⟨by decide, by decide, by decide, by decide⟩
theorem ialloc_ev {l : List S45} {v : List Int} {words n : Int} {counts : List Int} (hV : HV l v words) (hl : l.length ≤ 1000) :
    ∃ r, Ev (fun k => image_Alloc.f k v n counts) r ∧ ((needS n = 0 ∧ r = ([], 0, 1)) ∨ (needS n ≠ 0 ∧ (∀ j : Int, 0 ≤ j → j < l.length → ¬ OkB l (needS n) j) ∧ r = ([], 0, 4)) ∨
      (needS n ≠ 0 ∧ ∃ c, CanC l c (needS n) ∧ r = (eds (rd_T45 l c) (needS n), ((rd_T45 l c).f0 + 1) * 8, 0))) := by
  unfold image_Alloc.f
  by_cases hz : needS n = 0
  · exact ⟨([], 0, 1), ev_bindc (need_eq n) (ev_pos hz (Ev.now _)), .inl ⟨hz, rfl⟩⟩
  · have hn : 2 ≤ needS n := by have := need_r n; omega
    obtain ⟨out, c, _, h2, h3, h4⟩ := choose_ev (need := needS n) (counts := counts) (wf_may hV.1 hl) hn
    rcases chosen h2 h4 with ⟨hc, _, hno⟩ | ⟨c0, c1, hok, _⟩
    · exact ⟨_, ev_bindc (need_eq n) (ev_neg hz (ev_bind (hv_blocks hV) (ev_pos rfl (ev_bind h3 (ev_pos (by omega) (Ev.now _)))))), .inr (.inl ⟨hz, hno, rfl⟩)⟩
    · have can := (canc_of hV.1 c0 c1 hn).2 hok
      have hr := isb_rd can.1 c0 c1
      refine ⟨_, ev_bindc (need_eq n) (ev_neg hz (ev_bind (hv_blocks hV) (ev_pos rfl (ev_bind h3 (ev_neg (by omega) (ev_bind (cedits_yes hl can) (ev_pos c0 (ev_pos c1 (ev_bindc (off_v _ _ _) (Ev.now _)))))))))), .inr (.inr ⟨hz, c, can, ?_⟩)⟩
      rw [offv_in (by dsimp only; omega)]
theorem find_at (off : Int) (pre suf : List S45) (x : S45) (hx : x.f2 = true ∧ offV x.f0 = off) : ∀ i : Nat, (∀ b ∈ pre, b.f2 = true → offV b.f0 ≠ off) → findS off (pre ++ x :: suf) i = ((i + pre.length : Nat) : Int) := by
  induction pre with
  | nil =>
    intro i _
    show (if (x.f2 && decide (offV x.f0 = off)) = true then (i : Int) else findS off suf (i + 1)) = _
    rw [if_pos (by simp [hx.1, hx.2])]
    rfl
  | cons y pre ih =>
    intro i h
    show (if (y.f2 && decide (offV y.f0 = off)) = true then (i : Int) else findS off (pre ++ x :: suf) (i + 1)) = _
    rw [if_neg, ih (i + 1) (fun b hb => h b (List.mem_cons_of_mem _ hb)), List.length_cons]
    · omega
    · have := h y List.mem_cons_self
      simp only [Bool.and_eq_true, decide_eq_true_eq]
      exact fun hh => this hh.1 hh.2
theorem find_yes {l : List S45} {words c off : Int} (h : MayB l words) (h0 : 0 ≤ c) (h1 : c < l.length) (hu : (rd_T45 l c).f2 = true) (ho : off = ((rd_T45 l c).f0 + 1) * 8) : findS off l 0 = c := by
  have hl := c_split h0 h1
  have hw := h.1
  unfold MayW at hw
  have hr := chain_rd h.2 h0 h1
  have hup := chain_up h.2
  rw [hl, List.pairwise_append] at hup
  have := find_at off (l.take c.toNat) (l.drop (c.toNat + 1)) (rd_T45 l c) ⟨hu, by rw [offv_in (by omega), ho]⟩ 0 (fun b hb _ => by
    have h2 := hup.2.2 b hb _ List.mem_cons_self
    have h3 := chain_mem h.2 b (List.mem_of_mem_take hb)
    rw [offv_in (by omega), ho]
    omega)
  rw [← hl] at this
  rw [this, List.length_take]
  omega
theorem find_ev {l : List S45} {v : List Int} {words : Int} (hV : HV l v words) (off : Int) : Ev (fun k => image_find.f k v off) (l, findS off l 0) := by
  unfold image_find.f
  exact ev_bind (hv_blocks hV) (Ev.now _)
theorem hv_ne {l : List S45} {v : List Int} {words : Int} (hV : HV l v words) : l.length ≠ 0 := by
  intro e
  have hw := hV.1.1
  unfold MayW at hw
  have hl := List.eq_nil_of_length_eq_zero e
  have hc := hV.1.2
  rw [hl] at hc
  have hc : (0 : Int) = words := hc
  omega
theorem ifree_yes {l : List S45} {v : List Int} {words c off : Int} (hV : HV l v words) (hl : l.length ≤ 1000) (h0 : 0 ≤ c) (h1 : c < l.length) (hu : (rd_T45 l c).f2 = true) (ho : off = ((rd_T45 l c).f0 + 1) * 8) :
    Ev (fun k => image_Free.f k v off) ([⟨(rd_T45 l (mFrom l c)).f0, hWordM (sumS (mM l c)) false⟩], 0) := by
  have hne := hv_ne hV
  have can := can_of hV.1 ⟨h0, h1⟩ hu
  have hf := find_ev hV off
  rw [find_yes hV.1 h0 h1 hu ho] at hf
  unfold image_Free.f
  exact ev_bind hf (ev_neg (by dsimp only; omega) (ev_bind (medit_yes hl can) (ev_pos rfl (Ev.now _))))
theorem awake_ev : Ev (fun k => darninglaw19_awake.f k) true := Ev.of (fun k => darninglaw19_awake.mono k) (k := 60) (by decide +kernel)
theorem rneed_eq (n : Int) : darningref4_Need.f n = some (needS n) := by
  unfold darningref4_Need.f needS
  by_cases h1 : n < 1
  · rw [if_pos h1, if_pos (.inl h1)]
  · by_cases h2 : n > 448
    · rw [if_neg h1, if_pos h2, if_pos (.inr h2)]
    · rw [if_neg h1, if_neg h2, if_neg (by omega), w64 (n := n + 7) (by omega), tdivp (by omega), w64 (n := (n + 7) / 8) (by omega), w64 (by omega)]
      congr 1
      omega
theorem hv_first {W : Int} (hM : MayW W) : HV [(⟨0, W, false⟩ : S45)] ((List.replicate W.toNat 0).set 0 (2 * W)) W := by
  unfold MayW at hM
  have hlen : (((List.replicate W.toNat (0 : Int)).set 0 (2 * W)).length : Int) = W := by rw [List.length_set, List.length_replicate]; omega
  refine ⟨⟨hM, rfl, by dsimp only; omega, by dsimp only; omega, by dsimp only; omega, fun h => (by cases h), ?_⟩, ⟨by omega, fun j => ?_⟩, hlen, fun b hb => ?_⟩
  · show 0 + W = W
    omega
  · rw [rd_set _ _ (by rw [List.length_replicate]; omega), rd_rep]
    split <;> omega
  · rw [List.mem_singleton.1 hb]
    dsimp only
    rw [rd_set _ _ (by rw [List.length_replicate]; omega), if_pos (show (0 : Int).toNat = 0 from rfl)]
    unfold headOf
    simp
def usedOf (l : List S45) : List S45 := l.filter (fun b => b.f2)
theorem used_app (a b : List S45) : usedOf (a ++ b) = usedOf a ++ usedOf b := by unfold usedOf; exact List.filter_append ..
theorem used_free {A : List S45} (h : ∀ b ∈ A, b.f2 = false) : usedOf A = [] := by
  unfold usedOf
  rw [List.filter_eq_nil_iff]
  intro b hb
  rw [h b hb]
  decide
theorem used_all {A : List S45} (h : ∀ b ∈ A, b.f2 = true) : usedOf A = A := by
  unfold usedOf
  rw [List.filter_eq_self]
  intro b hb
  exact h b hb
theorem mM_used {l : List S45} {i : Int} (hi : 0 ≤ i ∧ i < l.length) (hu : (rd_T45 l i).f2 = true) : usedOf (mM l i) = [rd_T45 l i] := by
  have ft := from_to hi
  have er : rd_T45 (l.take (mTo l i).toNat) i = rd_T45 l i := by
    unfold rd_T45
    rw [List.getD_eq_getElem?_getD, List.getD_eq_getElem?_getD, List.getElem?_take_of_lt (by omega)]
  have e := c_split (l := l.take (mTo l i).toNat) hi.1 (by rw [List.length_take]; omega)
  rw [er, List.take_take, Nat.min_eq_left (by omega)] at e
  have eM : mM l i = (l.take i.toNat).drop (mFrom l i).toNat ++ rd_T45 l i :: (l.take (mTo l i).toNat).drop (i.toNat + 1) := by
    unfold mM
    conv => lhs; rw [e]
    rw [List.drop_append_of_le_length (by rw [List.length_take]; omega)]
  have hA : ∀ b ∈ (l.take i.toNat).drop (mFrom l i).toNat, b.f2 = false := by
    intro b hb
    by_cases c : i > 0 ∧ (rd_T45 l (i - 1)).f2 = false
    · have ef : mFrom l i = i - 1 := by unfold mFrom; rw [if_pos c]
      rw [ef] at hb
      cases hd : (l.take i.toNat).drop (i - 1).toNat with
      | nil => rw [hd] at hb; cases hb
      | cons q Q =>
        have hlen := congrArg List.length hd
        rw [List.length_drop, List.length_take, List.length_cons] at hlen
        have hQ : Q = [] := List.eq_nil_of_length_eq_zero (by omega)
        rw [hd, hQ] at hb
        rw [List.mem_singleton.1 hb]
        have e1 := (rdt_drop (by omega) hd).1
        have e2 : rd_T45 (l.take i.toNat) (i - 1) = rd_T45 l (i - 1) := by
          unfold rd_T45
          rw [List.getD_eq_getElem?_getD, List.getD_eq_getElem?_getD, List.getElem?_take_of_lt (by omega)]
        rw [← e1, e2]; exact c.2
    · have ef : mFrom l i = i := by unfold mFrom; rw [if_neg c]
      rw [ef, List.drop_of_length_le (by rw [List.length_take]; omega)] at hb
      cases hb
  have hD : ∀ b ∈ (l.take (mTo l i).toNat).drop (i.toNat + 1), b.f2 = false := by
    intro b hb
    by_cases c : i + 1 < l.length ∧ (rd_T45 l (i + 1)).f2 = false
    · have et : mTo l i = i + 2 := by unfold mTo; rw [if_pos c]
      rw [et, show i.toNat + 1 = (i + 1).toNat from by omega] at hb
      cases hd : (l.take (i + 2).toNat).drop (i + 1).toNat with
      | nil => rw [hd] at hb; cases hb
      | cons q Q =>
        have hlen := congrArg List.length hd
        rw [List.length_drop, List.length_take, List.length_cons] at hlen
        have hQ : Q = [] := List.eq_nil_of_length_eq_zero (by omega)
        rw [hd, hQ] at hb
        rw [List.mem_singleton.1 hb]
        have e1 := (rdt_drop (by omega) hd).1
        have e2 : rd_T45 (l.take (i + 2).toNat) (i + 1) = rd_T45 l (i + 1) := by
          unfold rd_T45
          rw [List.getD_eq_getElem?_getD, List.getD_eq_getElem?_getD, List.getElem?_take_of_lt (by omega)]
        rw [← e1, e2]; exact c.2
    · have et : mTo l i = i + 1 := by unfold mTo; rw [if_neg c]
      rw [et, List.drop_of_length_le (by rw [List.length_take]; omega)] at hb
      cases hb
  rw [eM, used_app, used_free hA, List.nil_append, show rd_T45 l i :: (l.take (mTo l i).toNat).drop (i.toNat + 1) = [rd_T45 l i] ++ (l.take (mTo l i).toNat).drop (i.toNat + 1) from rfl, used_app, used_free hD, List.append_nil, used_all (fun b hb => by rw [List.mem_singleton.1 hb]; exact hu)]
theorem split_once {x : S45} (A : List S45) : ∀ {B A' B' : List S45}, (A ++ x :: B).Pairwise (fun b c => b.f0 < c.f0) → A ++ x :: B = A' ++ x :: B' → A = A' ∧ B = B' := by
  induction A with
  | nil =>
    intro B A' B' hp h
    cases A' with
    | nil => exact ⟨rfl, (List.cons.inj h).2⟩
    | cons a A' =>
      have h1 := (List.cons.inj h).1
      have h2 := (List.cons.inj h).2
      have := (List.pairwise_cons.1 hp).1 x (by rw [h2]; simp)
      omega
  | cons a A ih =>
    intro B A' B' hp h
    cases A' with
    | nil =>
      have h1 := (List.cons.inj h).1
      have := (List.pairwise_cons.1 hp).1 x (by simp)
      rw [h1] at this
      omega
    | cons a' A' =>
      have h1 := (List.cons.inj h).1
      have h2 := (List.cons.inj h).2
      obtain ⟨e1, e2⟩ := ih (List.pairwise_cons.1 hp).2 h2
      exact ⟨by rw [h1, e1], e2⟩
theorem used_up {l : List S45} {words : Int} (h : MayB l words) : (usedOf l).Pairwise (fun b c => b.f0 < c.f0) := by
  unfold usedOf
  refine List.Pairwise.filter _ ?_
  refine List.Pairwise.imp_of_mem ?_ (chain_up h.2)
  intro b c hb _ hh
  have := chain_mem h.2 b hb
  omega
theorem may_len {l : List S45} {words : Int} (h : MayB l words) : l.length ≤ 256 := by
  have hw := h.1
  unfold MayW at hw
  have := chain_len h.2
  omega
theorem mem_rd {l : List S45} {x : S45} (h : x ∈ l) : ∃ c : Int, 0 ≤ c ∧ c < l.length ∧ rd_T45 l c = x := by
  obtain ⟨n, hn, e⟩ := List.getElem_of_mem h
  refine ⟨n, by omega, by omega, ?_⟩
  obtain ⟨_, e2⟩ := rdt_get (l := l) (j := (n : Int)) (by omega) (by omega)
  rw [e2, ← e]
  rfl
theorem free_used {l : List S45} {v : List Int} {words : Int} {A B : List S45} {x : S45} (hV : HV l v words) (hU : usedOf l = A ++ x :: B) :
    ∃ e v' l', Ev (fun k => image_Free.f k v ((x.f0 + 1) * 8)) (e, 0) ∧ Ev (fun k => darningref4_Apply.f k v e) v' ∧ HV l' v' words ∧ usedOf l' = A ++ B := by
  have hx : x ∈ usedOf l := by rw [hU]; simp
  have hxl : x ∈ l := (List.mem_filter.1 hx).1
  have hxu : x.f2 = true := (List.mem_filter.1 hx).2
  obtain ⟨c, c0, c1, hc⟩ := mem_rd hxl
  have hlen := may_len hV.1
  have hu : (rd_T45 l c).f2 = true := by rw [hc]; exact hxu
  have hf := ifree_yes (off := (x.f0 + 1) * 8) hV (by omega) c0 c1 hu (by rw [hc])
  have can := can_of hV.1 ⟨c0, c1⟩ hu
  have hV2 := hv_mrg hV can
  have ft := from_to (l := l) (i := c) ⟨c0, c1⟩
  have hrf := chain_rd hV.1.2 (j := mFrom l c) ft.1 (by omega)
  have hw := hV.1.1
  unfold MayW at hw
  have hvl := hV.2.2.1
  have hap := apply_ev (v := v) (es := [(⟨(rd_T45 l (mFrom l c)).f0, hWordM (sumS (mM l c)) false⟩ : S57)]) (by omega) (by simp)
  have ea : app v [(⟨(rd_T45 l (mFrom l c)).f0, hWordM (sumS (mM l c)) false⟩ : S57)] = v.set (rd_T45 l (mFrom l c)).f0.toNat (hWordM (sumS (mM l c)) false) := by
    show (if _ then _ else _) = _
    rw [if_pos]
    dsimp only
    omega
  rw [ea] at hap
  refine ⟨_, _, _, hf, hap, hV2, ?_⟩
  have hs := m_split (l := l) (i := c) ⟨c0, c1⟩
  have hU2 : usedOf l = usedOf (mP l c) ++ x :: usedOf (mQ l c) := by
    conv => lhs; rw [hs]
    rw [used_app, used_app, mM_used ⟨c0, c1⟩ hu, hc, List.append_assoc]
    rfl
  have hup := used_up hV.1
  rw [hU] at hup
  obtain ⟨e1, e2⟩ := split_once A hup (hU.symm.trans hU2)
  unfold mrg
  rw [used_app, used_app, used_free (A := [(⟨(rd_T45 l (mFrom l c)).f0, sumS (mM l c), false⟩ : S45)]) (fun b hb => by rw [List.mem_singleton.1 hb]), List.append_nil, ← e1, ← e2]
theorem one_free {l : List S45} {v : List Int} {words : Int} (hV : HV l v words) (h : usedOf l = []) : l.length = 1 := by
  have hne := hv_ne hV
  have hno : ∀ b ∈ l, b.f2 = false := by
    intro b hb
    cases hf : b.f2 with
    | false => rfl
    | true =>
      have : b ∈ usedOf l := List.mem_filter.2 ⟨hb, hf⟩
      rw [h] at this
      cases this
  rcases Nat.lt_or_ge 1 l.length with c | c
  · have := chain_alt hV.1.2 (j := 0) (by omega) (by omega) (hno _ (rdt_mem (by omega) (by omega)))
    rw [hno _ (rdt_mem (by omega) (by omega))] at this
    cases this
  · omega
def offB (b : S45) : Int := (b.f0 + 1) * 8
theorem rdi_mid (pre suf : List Int) (x : Int) : rd (pre ++ x :: suf) (pre.length : Int) = x := by
  unfold rd
  rw [List.getD_eq_getElem?_getD, Int.toNat_natCast, List.getElem?_append_right (by omega)]
  simp
theorem fills_end {l : List S45} {v offs : List Int} {words : Int} {back : Bool} (hV : HV l v words) (hU : usedOf l = []) (n j : Int) (hj : ¬ j < n) : Ev (fun k => darninglaw19_ImageFills.l1 k back v offs n j) true := by
  have h1 := one_free hV hU
  refine Ev.step (fun k => by rw [darninglaw19_ImageFills.l1]) ?_
  exact ev_neg hj (ev_bind (hv_blocks hV) (ev_pos rfl (ev_pos (by dsimp only; omega) (ev_bind awake_ev (Ev.now _)))))
theorem fills_fwd {words : Int} (offs : List Int) (ho : offs.length ≤ 1000) (Us : List S45) : ∀ (pre : List Int) (l : List S45) (v : List Int), offs = pre ++ Us.map offB → HV l v words → usedOf l = Us →
    Ev (fun k => darninglaw19_ImageFills.l1 k false v offs (offs.length : Int) (pre.length : Int)) true := by
  induction Us with
  | nil =>
    intro pre l v he hV hU
    exact fills_end hV hU _ _ (by rw [he]; simp)
  | cons x Us ih =>
    intro pre l v he hV hU
    obtain ⟨e, v', l', h1, h2, h3, h4⟩ := free_used (A := []) (B := Us) hV hU
    have he' : offs = pre ++ offB x :: Us.map offB := he
    have hl := congrArg List.length he'
    rw [List.length_append, List.length_cons] at hl
    have hr : rd offs (pre.length : Int) = (x.f0 + 1) * 8 := by rw [he']; exact rdi_mid pre _ _
    have next := ih (pre ++ [offB x]) l' v' (by rw [he']; simp) h3 h4
    rw [List.length_append, List.length_singleton] at next
    refine Ev.step (fun k => by rw [darninglaw19_ImageFills.l1]) ?_
    refine ev_pos (by omega) (ev_pos (by omega) (ev_pos (by omega) (ev_neg (by decide) ?_)))
    refine Ev.step (fun k => by rw [darninglaw19_ImageFills.j4]) ?_
    rw [hr, w64 (n := (pre.length : Int) + 1) (by omega)]
    exact ev_bind h1 (ev_pos rfl (ev_bind h2 next))
theorem fills_bwd {words : Int} (offs : List Int) (ho : offs.length ≤ 1000) (d : Nat) : ∀ (Us : List S45) (suf : List Int) (l : List S45) (v : List Int), Us.length = d → offs = Us.map offB ++ suf → HV l v words → usedOf l = Us →
    Ev (fun k => darninglaw19_ImageFills.l1 k true v offs (offs.length : Int) (suf.length : Int)) true := by
  induction d with
  | zero =>
    intro Us suf l v hd he hV hU
    have : Us = [] := List.eq_nil_of_length_eq_zero hd
    rw [this] at he hU
    exact fills_end hV hU _ _ (by rw [he]; simp)
  | succ d ih =>
    intro Us suf l v hd he hV hU
    obtain ⟨Us', x, rfl⟩ : ∃ Us' x, Us = Us' ++ [x] := by
      have hne : Us ≠ [] := fun h => by rw [h] at hd; cases hd
      exact ⟨Us.dropLast, Us.getLast hne, (List.dropLast_concat_getLast hne).symm⟩
    obtain ⟨e, v', l', h1, h2, h3, h4⟩ := free_used (A := Us') (B := []) hV hU
    rw [List.append_nil] at h4
    have he' : offs = Us'.map offB ++ offB x :: suf := by rw [he, List.map_append, List.append_assoc]; rfl
    have hl := congrArg List.length he'
    rw [List.length_append, List.length_cons, List.length_map] at hl
    rw [List.length_append, List.length_singleton] at hd
    have hr : rd offs (Us'.length : Int) = (x.f0 + 1) * 8 := by
      have := rdi_mid (Us'.map offB) suf (offB x)
      rw [List.length_map] at this
      rw [he']; exact this
    have next := ih Us' (offB x :: suf) l' v' (by omega) he' h3 h4
    rw [List.length_cons] at next
    refine Ev.step (fun k => by rw [darninglaw19_ImageFills.l1]) ?_
    rw [w64 (n := (offs.length : Int) - 1) (by omega), w64 (n := (offs.length : Int) - 1 - (suf.length : Int)) (by omega), show (offs.length : Int) - 1 - (suf.length : Int) = (Us'.length : Int) from by omega]
    refine ev_pos (by omega) (ev_pos (by omega) (ev_pos (by omega) (ev_pos rfl (ev_pos (by omega) (ev_pos (by omega) ?_)))))
    refine Ev.step (fun k => by rw [darninglaw19_ImageFills.j4]) ?_
    rw [hr, w64 (n := (suf.length : Int) + 1) (by omega)]
    exact ev_bind h1 (ev_pos rfl (ev_bind h2 next))
theorem fills_j1 {l : List S45} {v offs : List Int} {lines n W : Int} {back : Bool} (hV : HV l v W) (hW : W = 8 * lines) (hn : needS n ≠ 0) (hU : offs = (usedOf l).map offB) (hc : (offs.length : Int) = W / needS n) : Ev (fun k => darninglaw19_ImageFills.j1 k lines n back v offs) true := by
  have hw := hV.1.1
  unfold MayW at hw
  have hr := need_r n
  have hlen := may_len hV.1
  have hol : offs.length ≤ 256 := by
    have h1 := congrArg List.length hU
    rw [List.length_map] at h1
    have h2 : (usedOf l).length ≤ l.length := List.length_filter_le ..
    omega
  refine Ev.step (fun k => by rw [darninglaw19_ImageFills.j1]) ?_
  rw [w64 (n := 8 * lines) (by omega), ← hW]
  refine ev_bindc (rneed_eq n) (ev_neg hn (ev_pos ?_ ?_))
  · rw [tdivp (by omega), w64 (by omega)]; exact hc
  · refine Ev.step (fun k => by rw [darninglaw19_ImageFills.j2]) ?_
    refine ev_neg (by decide) ?_
    cases back with
    | false => exact fills_fwd offs (by omega) (usedOf l) [] l v (by rw [List.nil_append]; exact hU) hV rfl
    | true => exact fills_bwd offs (by omega) (usedOf l).length (usedOf l) [] l v rfl (by rw [List.append_nil]; exact hU) hV rfl
theorem div_of {W d c a f : Int} (hd : 0 < d) (ha : a = c * d) (hf : 0 ≤ f ∧ f < d) (hW : W = a + f) : c = W / d := by
  rw [hW, ha, Int.add_comm, Int.add_mul_ediv_right _ _ (by omega), Int.ediv_eq_zero_of_lt hf.1 hf.2]
  omega
theorem fills_l0 {lines n W : Int} {back : Bool} (hW : W = 8 * lines) (hn : needS n ≠ 0) (d : Nat) : ∀ (c a : Int) (U T : List S45) (v offs : List Int), c + d = 400 → 0 ≤ c → a = c * needS n → HV (U ++ T) v W → (∀ b ∈ U, b.f2 = true) → (U.length : Int) = c → offs = U.map offB →
    ((2 * c ≤ a ∧ 2 ≤ W - a ∧ T = [⟨a, W - a, false⟩]) ∨ (T = [] ∧ c = W / needS n)) → Ev (fun k => darninglaw19_ImageFills.l0 k lines n back v offs c) true := by
  induction d with
  | zero =>
    intro c a U T v offs h0 _ ha hV hu hl ho hT
    have := may_len hV.1
    rw [List.length_append] at this
    omega
  | succ d ih =>
    intro c a U T v offs h0 hc0 ha hV hu hl ho hT
    have hw := hV.1.1
    unfold MayW at hw
    have hr := need_r n
    have hlen := may_len hV.1
    have hlen2 := hlen
    rw [List.length_append] at hlen2
    have hol : (offs.length : Int) = c := by rw [ho, List.length_map]; exact hl
    have usedU : ∀ j : Int, 0 ≤ j → j < U.length → (rd_T45 (U ++ T) j).f2 = true := fun j j0 j1 => by
      rw [rdt_pre U T j0 j1]
      exact hu _ (rdt_mem j0 j1)
    have done : c = W / needS n → (∀ b ∈ T, b.f2 = false) → Ev (fun k => image_Alloc.f k v n ([] : List Int)) ([], 0, 4) → Ev (fun k => darninglaw19_ImageFills.l0 k lines n back v offs c) true := by
      intro hc hTf hr4
      refine Ev.step (fun k => by rw [darninglaw19_ImageFills.l0]) ?_
      refine ev_pos (by omega) (ev_bind hr4 (ev_neg (by decide) (ev_pos rfl (ev_pos rfl ?_))))
      refine fills_j1 hV hW hn ?_ (by rw [hol]; exact hc)
      rw [used_app, used_all hu, used_free hTf, List.append_nil]
      exact ho
    obtain ⟨r, hra, hcase⟩ := ialloc_ev (n := n) (counts := []) hV (by omega)
    rcases hcase with ⟨h, _⟩ | ⟨_, hno, e⟩ | ⟨_, i, can, e⟩
    · exact absurd h hn
    · rw [e] at hra
      rcases hT with ⟨t1, t2, t3⟩ | ⟨t1, t2⟩
      · have hx : rd_T45 (U ++ T) (U.length : Int) = ⟨a, W - a, false⟩ := by rw [t3]; exact rdt_mid U [] _
        have hno2 := hno (U.length : Int) (by omega) (by rw [t3, List.length_append, List.length_singleton]; omega)
        have hlt : W - a < needS n := by
          rcases Int.lt_or_le (W - a) (needS n) with h | h
          · exact h
          · refine absurd ?_ hno2
            unfold OkB
            rw [hx]
            exact ⟨rfl, h⟩
        refine done (div_of (by omega) ha ⟨by omega, hlt⟩ (by omega)) ?_ hra
        intro b hb
        rw [t3] at hb
        rw [List.mem_singleton.1 hb]
      · exact done t2 (by rw [t1]; intro b hb; cases hb) hra
    · rcases hT with ⟨t1, t2, t3⟩ | ⟨t1, t2⟩
      · subst t3
        have hx : rd_T45 (U ++ [(⟨a, W - a, false⟩ : S45)]) (U.length : Int) = ⟨a, W - a, false⟩ := rdt_mid U [] _
        have hi : i = (U.length : Int) := by
          have h1 := can.2.1
          have h2 := can.2.2.1
          have h3 := can.2.2.2.1
          rw [List.length_append, List.length_singleton] at h2
          by_cases c1 : i < U.length
          · rw [usedU i h1 c1] at h3; cases h3
          · omega
        subst hi
        have hV2 := hv_crv hV can
        have h5 := can.2.2.2.2
        rw [hx] at h5 hV2 e
        dsimp only at h5
        have ht := tk_r h5 t2
        have ec : crv (U ++ [(⟨a, W - a, false⟩ : S45)]) (U.length : Int) (needS n) = (U ++ [⟨a, tk (W - a) (needS n), true⟩]) ++ (if tk (W - a) (needS n) < W - a then [(⟨a + tk (W - a) (needS n), W - a - tk (W - a) (needS n), false⟩ : S45)] else []) := by
          unfold crv
          rw [hx, Int.toNat_natCast, List.take_left, List.drop_of_length_le (by rw [List.length_append, List.length_singleton]; omega), List.append_nil]
          unfold tkn
          rw [List.append_assoc]
          rfl
        rw [ec] at hV2
        rw [e] at hra
        have hel := eds_len (b := (⟨a, W - a, false⟩ : S45)) (need := needS n) ht.1
        have hvl := hV.2.2.1
        have hap := apply_ev (v := v) (es := eds (⟨a, W - a, false⟩ : S45) (needS n)) (by omega) (by dsimp only at hel; split at hel <;> omega)
        have hmul : (c + 1) * needS n = a + needS n := by rw [ha, Int.add_mul, Int.one_mul]
        refine Ev.step (fun k => by rw [darninglaw19_ImageFills.l0]) ?_
        rw [w64 (n := c + 1) (by omega)]
        refine ev_pos (by omega) (ev_bind hra (ev_pos rfl (ev_bind hap (ev_pos (by omega) ?_))))
        refine ih (c + 1) (a + needS n) (U ++ [⟨a, tk (W - a) (needS n), true⟩]) _ _ _ (by omega) (by omega) hmul.symm hV2 ?_ (by rw [List.length_append, List.length_singleton]; omega) (by rw [ho, List.map_append]; rfl) ?_
        · intro b hb
          rcases List.mem_append.1 hb with hb | hb
          · exact hu b hb
          · rw [List.mem_singleton.1 hb]
        · by_cases c2 : tk (W - a) (needS n) < W - a
          · left
            have he : tk (W - a) (needS n) = needS n := by
              unfold tk at c2 ⊢
              split at c2
              · rename_i q; rw [if_pos q]; unfold tk at h5; rw [if_pos q] at h5; exact absurd rfl h5
              · rename_i q; rw [if_neg q]
                split at c2
                · omega
                · rename_i q2; rw [if_neg q2]
            have := ht.2.2.1 c2
            rw [if_pos c2, he]
            exact ⟨by omega, by omega, by rw [show W - a - needS n = W - (a + needS n) from by omega]⟩
          · right
            rw [if_neg c2]
            refine ⟨rfl, div_of (a := a + needS n) (f := W - a - needS n) (by omega) hmul.symm ?_ (by omega)⟩
            unfold tk at c2 h5
            split at h5
            · exact absurd rfl h5
            · rename_i q
              rw [if_neg q] at c2
              split at c2
              · omega
              · omega
      · exfalso
        have h1 := can.2.1
        have h2 := can.2.2.1
        have h3 := can.2.2.2.1
        rw [t1, List.append_nil] at h2
        rw [usedU i h1 h2] at h3
        cases h3
theorem ImageFills : darninglaw19_ImageFills.Pure := by
  intro a0 a1 back h0 h1
  apply Ev.rounds
  unfold darninglaw19_ImageFills.f
  rw [modw a0 64 (by omega) (by omega), modw a1 448 (by omega) (by omega)]
  have x0 := Int.emod_nonneg (a0 % 18446744073709551616) (b := 64) (by omega)
  have x1 := Int.emod_lt_of_pos (a0 % 18446744073709551616) (b := 64) (by omega)
  have y0 := Int.emod_nonneg (a1 % 18446744073709551616) (b := 448) (by omega)
  have y1 := Int.emod_lt_of_pos (a1 % 18446744073709551616) (b := 448) (by omega)
  generalize a0 % 18446744073709551616 % 64 = p at x0 x1 ⊢
  generalize a1 % 18446744073709551616 % 448 = q at y0 y1 ⊢
  rw [w64 (n := 1 + p) (by omega), w64 (n := 8 * (1 + p)) (by omega), w64 (n := 1 + q) (by omega)]
  obtain ⟨W, eW⟩ : ∃ W, W = 8 * (1 + p) := ⟨_, rfl⟩
  rw [← eW]
  have hM : MayW W := by unfold MayW; omega
  have hf : chain_First.f W = some ((List.replicate W.toNat 0).set 0 (2 * W)) := by rw [first_eq, if_pos hM]
  have hV0 := hv_first hM
  have hn : needS (1 + q) ≠ 0 := by unfold needS; rw [if_neg (by omega)]; omega
  refine ev_bindc hf ?_
  exact fills_l0 (back := back) eW hn 400 0 0 [] [(⟨0, W, false⟩ : S45)] _ [] (by omega) (by omega) (by omega) hV0 (fun b hb => by cases hb) rfl rfl (.inl ⟨by omega, by omega, by rw [Int.sub_zero]⟩)

end Go.Proofs.Ytglekonhdjploab.Pure
