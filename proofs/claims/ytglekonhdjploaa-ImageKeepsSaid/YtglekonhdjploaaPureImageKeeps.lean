/- ImageKeeps: whatever is done to an image, its words are blocks, and what is written is read. No condition. -/
import Derived.Test.YtglekonhdjploaaXImageKeepsx
namespace Go.Proofs.Ytglekonhdjploaa.Pure
open Go.RowKit Go.Proofs.Ytglekonhdjploaa.XImageKeeps Go.Proofs.YtglekonhdjploaaW.PrintWords Go.Proofs.YtglekonhdjploaaW.PrintLast

set_option linter.unusedVariables false
theorem ia (n : Int) : IntKind.u64.wrap n = n % 18446744073709551616 := by simp [IntKind.wrap, IntKind.bits, IntKind.signed]
theorem aq {n : Int} (h : -9223372036854775808 ≤ n ∧ n ≤ 9223372036854775807) : wrap64 n = n := by unfold wrap64; omega
theorem e5 {a b : Int} (h : 0 ≤ a) : Int.tmod a b = a % b := Int.tmod_eq_emod_of_nonneg h
theorem dk {a b : Int} (h : 0 ≤ a) : Int.tdiv a b = a / b := Int.tdiv_eq_ediv_of_nonneg h
theorem av (n : Int) (h₀ : 0 ≤ n) (h₁ : n < 2 ^ 64) : IntKind.u64.wrap n = n := by rw [ia]; omega
theorem gc (i : Nat) (hi : i ≤ 64) (x : Int) (h₀ : 0 ≤ x) (h₁ : x < 2 ^ 64) : Go.bits .and .u64 x (2 ^ i - 1) = x % 2 ^ i :=
 bits_mask .u64 64 (by decide) av i hi x h₀ h₁
theorem gd {x : Int} (h₀ : 0 ≤ x) (h₁ : x ≤ 18446744073709551615) : Go.bits .and .u64 x 1 = x % 2 := gc 1 (by decide) x h₀ (by omega)
theorem ib {x : Int} (h₀ : 0 ≤ x) (h₁ : x ≤ 18446744073709551615) (h : x % 2 = 0) : Go.bits .or .u64 x 1 = x + 1 :=
 bits_join .u64 64 (by decide) av 1 x 1 h₀ h (by omega) (by decide) (by decide) (by decide)
theorem jd (a m : Int) (h : 0 < m) (hm : m ≤ 1000000) : wrap64 (Int.tmod (IntKind.u64.wrap a) m) = (a % 18446744073709551616) % m := by
 rw [ia, e5 (by omega), aq]
 have := Int.emod_nonneg (a % 18446744073709551616) (b := m) (by omega)
 have := Int.emod_lt_of_pos (a % 18446744073709551616) h
 omega
def dl (x c s : Nat) : Nat := ((BitVec.ofNat 64 x &&& ~~~ BitVec.ofNat 64 (255 * 2 ^ s)) ||| BitVec.ofNat 64 (c * 2 ^ s)).toNat
theorem ge (x c s i : Nat) (hc : c < 256) (hi : i < 64) : (dl x c s).testBit i = if s ≤ i ∧ i < s + 8 then c.testBit (i - s) else x.testBit i := by
 unfold dl
 rw [← BitVec.getLsbD, BitVec.getLsbD_or, BitVec.getLsbD_and, BitVec.getLsbD_not, BitVec.getLsbD_ofNat, BitVec.getLsbD_ofNat, BitVec.getLsbD_ofNat, ← Nat.shiftLeft_eq, ← Nat.shiftLeft_eq, Nat.testBit_shiftLeft, Nat.testBit_shiftLeft,
  show (255 : Nat) = 2 ^ 8 - 1 from rfl, Nat.testBit_two_pow_sub_one]
 by_cases h1 : s ≤ i
 ·by_cases h2 : i < s + 8
  ·rw [if_pos ⟨h1, h2⟩, decide_eq_true hi, decide_eq_true (show i ≥ s from h1), decide_eq_true (show i - s < 8 by omega)]
   simp
  ·have : c.testBit (i - s) = false := Nat.testBit_lt_two_pow (Nat.lt_of_lt_of_le hc (Nat.pow_le_pow_right (n := 2) (i := 8) (by decide) (by omega)))
   rw [if_neg (fun h => h2 h.2), decide_eq_true hi, decide_eq_false (show ¬ i - s < 8 by omega), this]
   simp
 ·rw [if_neg (fun h => h1 h.1), decide_eq_true hi, decide_eq_false (show ¬ i ≥ s from h1)]
  simp
theorem ic (x c s : Nat) : dl x c s < 2 ^ 64 := BitVec.isLt _
theorem fg (x c s t : Nat) (hc : c < 256) (ht : t + 8 ≤ 64) (h : s = t ∨ s + 8 ≤ t ∨ t + 8 ≤ s) : dl x c s / 2 ^ t % 2 ^ 8 = if s = t then c else x / 2 ^ t % 2 ^ 8 := by
 apply Nat.eq_of_testBit_eq
 intro j
 rw [Nat.testBit_mod_two_pow, Nat.testBit_div_two_pow]
 by_cases hj : j < 8
 ·rw [decide_eq_true hj, Bool.true_and, ge x c s _ hc (by omega)]
  by_cases e : s = t
  ·rw [if_pos e, if_pos (by omega), show j + t - s = j from by omega]
  ·rw [if_neg e, if_neg (by omega), Nat.testBit_mod_two_pow, Nat.testBit_div_two_pow, decide_eq_true hj, Bool.true_and]
 ·rw [decide_eq_false hj, Bool.false_and]
  split
  ·exact (Nat.testBit_lt_two_pow (Nat.lt_of_lt_of_le hc (Nat.pow_le_pow_right (n := 2) (i := 8) (by decide) (by omega)))).symm
  ·rw [Nat.testBit_mod_two_pow, decide_eq_false hj, Bool.false_and]
def cu (x c s : Int) : Int := Go.bits .or .u64 (Go.bits .andNot .u64 x (shl .u64 255 s)) (shl .u64 (IntKind.u64.wrap c) s)
theorem gf (x c s : Nat) (hx : x < 2 ^ 64) (hc : c < 256) (hs : s + 8 ≤ 64) : cu x c s = (dl x c s : Nat) := by
 have e1 : shl .u64 255 (s : Int) = ((255 * 2 ^ s : Nat) : Int) := by
  have h1 : (255 * 2 ^ s : Nat) < 2 ^ 64 := Nat.lt_of_lt_of_le (Nat.mul_lt_mul_of_pos_right (show 255 < 2 ^ 8 by decide) (Nat.two_pow_pos s)) (by rw [← Nat.pow_add]; exact Nat.pow_le_pow_right (by decide) (by omega))
  unfold shl
  rw [Int.toNat_natCast, show min s IntKind.u64.bits = s from Nat.min_eq_left (by show s ≤ 64; omega), show (255 : Int) * 2 ^ s = ((255 * 2 ^ s : Nat) : Int) from by rw [Int.natCast_mul, Int.natCast_pow]; rfl, av _ (Int.natCast_nonneg _) (by exact_mod_cast h1)]
 have e2 : shl .u64 (IntKind.u64.wrap (c : Int)) (s : Int) = ((c * 2 ^ s : Nat) : Int) := by
  have h1 : (c * 2 ^ s : Nat) < 2 ^ 64 := Nat.lt_of_lt_of_le (Nat.mul_lt_mul_of_pos_right (show c < 2 ^ 8 by omega) (Nat.two_pow_pos s)) (by rw [← Nat.pow_add]; exact Nat.pow_le_pow_right (by decide) (by omega))
  unfold shl
  rw [av (c : Int) (by omega) (by omega), Int.toNat_natCast, show min s IntKind.u64.bits = s from Nat.min_eq_left (by show s ≤ 64; omega), show (c : Int) * 2 ^ s = ((c * 2 ^ s : Nat) : Int) from by rw [Int.natCast_mul, Int.natCast_pow]; rfl, av _ (Int.natCast_nonneg _) (by exact_mod_cast h1)]
 unfold cu
 rw [e1, e2]
 have hb : ∀ a b : Nat, b < 2 ^ 64 → Go.bits .andNot .u64 (a : Int) (b : Int) = (((BitVec.ofNat 64 a &&& ~~~ BitVec.ofNat 64 b).toNat : Nat) : Int) := fun a b _ => by
  show IntKind.u64.wrap _ = _
  rw [av _ (by omega) (by exact_mod_cast BitVec.isLt _)]
  simp only [BitVec.ofInt_natCast]
  rfl
 have ho : ∀ a b : Nat, Go.bits .or .u64 (a : Int) (b : Int) = (((BitVec.ofNat 64 a ||| BitVec.ofNat 64 b).toNat : Nat) : Int) := fun a b => by
  show IntKind.u64.wrap _ = _
  rw [av _ (by omega) (by exact_mod_cast BitVec.isLt _)]
  simp only [BitVec.ofInt_natCast]
  rfl
 rw [hb _ _ (Nat.lt_of_lt_of_le (Nat.mul_lt_mul_of_pos_right (show 255 < 2 ^ 8 by decide) (Nat.two_pow_pos s)) (by rw [← Nat.pow_add]; exact Nat.pow_le_pow_right (by decide) (by omega))), ho]
 unfold dl
 rw [BitVec.ofNat_toNat, BitVec.setWidth_eq]
def al (v : List Int) (i : Int) : Int := shr .u64 (rd v (i / 8)) (i % 8 * 8) % 256
theorem gg (x : Int) {s : Int} (h : 0 ≤ s ∧ s ≤ 64) : shr .u64 x s = x / 2 ^ s.toNat := by
 unfold shr
 rw [show min s.toNat IntKind.u64.bits = s.toNat from Nat.min_eq_left (by show s.toNat ≤ 64; omega)]
theorem cy {x c : Int} (hx : 0 ≤ x ∧ x ≤ 18446744073709551615) (hc : 0 ≤ c ∧ c ≤ 255) {i j : Int} (hi : 0 ≤ i ∧ i < 8) (hj : 0 ≤ j ∧ j < 8) :
  (0 ≤ cu x c (i * 8) ∧ cu x c (i * 8) ≤ 18446744073709551615) ∧ shr .u64 (cu x c (i * 8)) (j * 8) % 256 = if i = j then c else shr .u64 x (j * 8) % 256 := by
 obtain ⟨X, rfl⟩ := Int.eq_ofNat_of_zero_le hx.1
 obtain ⟨C, rfl⟩ := Int.eq_ofNat_of_zero_le hc.1
 obtain ⟨I, rfl⟩ := Int.eq_ofNat_of_zero_le hi.1
 obtain ⟨J, rfl⟩ := Int.eq_ofNat_of_zero_le hj.1
 have e : ((I : Int) * 8) = ((I * 8 : Nat) : Int) := by omega
 have e2 : ((J : Int) * 8) = ((J * 8 : Nat) : Int) := by omega
 rw [e, gf X C (I * 8) (by omega) (by omega) (by omega), gg _ (by omega), gg _ (by omega), e2, Int.toNat_natCast]
 have hb := fg X C (I * 8) (J * 8) (by omega) (by omega) (by omega)
 have hl := ic X C (I * 8)
 refine ⟨by omega, ?_⟩
 have h1 : ((dl X C (I * 8) : Nat) : Int) / 2 ^ (J * 8) % 256 = ((dl X C (I * 8) / 2 ^ (J * 8) % 2 ^ 8 : Nat) : Int) := by rw [Int.natCast_emod, Int.natCast_ediv, Int.natCast_pow]; rfl
 have h2 : ((X : Nat) : Int) / 2 ^ (J * 8) % 256 = ((X / 2 ^ (J * 8) % 2 ^ 8 : Nat) : Int) := by rw [Int.natCast_emod, Int.natCast_ediv, Int.natCast_pow]; rfl
 rw [h1, h2, hb]
 by_cases h : I = J
 ·rw [if_pos (by omega), if_pos (by omega)]
 ·rw [if_neg (by omega), if_neg (by omega)]
theorem ac {α : Type} {c : Prop} [Decidable c] {a b : Nat → Option α} {r : α} (h : c) (k : Ev a r) : Ev (fun n => if c then a n else b n) r := by
 simp only [if_pos h]; exact k
theorem ai {α : Type} {c : Prop} [Decidable c] {a b : Nat → Option α} {r : α} (h : ¬ c) (k : Ev b r) : Ev (fun n => if c then a n else b n) r := by
 simp only [if_neg h]; exact k
theorem ak {α : Type} {c : Prop} [Decidable c] {a b : Nat → Option α} {r : α} (h1 : c → Ev a r) (h2 : ¬ c → Ev b r) : Ev (fun n => if c then a n else b n) r := by
 by_cases h : c
 ·exact ac h (h1 h)
 ·exact ai h (h2 h)
theorem ab {α β : Type} {o : Option α} {f : Nat → α → Option β} {a : α} {r : β} (h : o = some a) (k : Ev (fun n => f n a) r) : Ev (fun n => o.bind (f n)) r := by
 subst h; exact k
theorem aa {α β : Type} {g : Nat → Option α} {f : Nat → α → Option β} {a : α} {r : β} (h : Ev g a) (k : Ev (fun n => f n a) r) : Ev (fun n => (g n).bind (f n)) r := Ev.bind h k
theorem c8 {α : Type} {r s : α} (h : s = r) : Ev (fun _ => some s) r := by subst h; exact Ev.now _
theorem ar (pre suf : List S35) (x : S35) : rd_T35 (pre ++ x :: suf) (pre.length : Int) = x := by
 unfold rd_T35
 rw [List.getD_eq_getElem?_getD, Int.toNat_natCast, List.getElem?_append_right (by omega)]
 simp
theorem bn {l : List S35} {j : Int} (h0 : 0 ≤ j) (h1 : j < l.length) : ∃ h : j.toNat < l.length, rd_T35 l j = l[j.toNat]'h := by
 refine ⟨by omega, ?_⟩
 unfold rd_T35
 rw [List.getD_eq_getElem?_getD, List.getElem?_eq_getElem (by omega)]
 rfl
theorem bu {l : List S35} {j : Int} (h0 : 0 ≤ j) (h1 : j < l.length) : rd_T35 l j ∈ l := by
 obtain ⟨h, e⟩ := bn h0 h1
 rw [e]
 exact List.getElem_mem h
def ah (words : Int) : Int → Bool → List S35 → Prop
 | a, _, [] => a = words
 | a, fr, b :: l => b.f0 = a ∧ 2 ≤ b.f1 ∧ b.f1 ≤ 512 ∧ b.f1 ≤ words - a ∧ (fr = true → b.f2 = true) ∧ ah words (a + b.f1) (!b.f2) l
def a8 (words : Int) : Prop := 8 ≤ words ∧ words ≤ 512 ∧ words % 8 = 0
instance (words : Int) : Decidable (a8 words) := by unfold a8; infer_instance
def aw (l : List S35) (words : Int) : Prop := a8 words ∧ ah words 0 false l
theorem af {words : Int} {l : List S35} : ∀ {a : Int} {fr : Bool}, ah words a fr l → ∀ b ∈ l, a ≤ b.f0 ∧ 2 ≤ b.f1 ∧ b.f1 ≤ 512 ∧ b.f0 + b.f1 ≤ words := by
 induction l with
 | nil => exact fun _ b hb => absurd hb (by simp)
 | cons c l ih =>
  intro a fr h b hb
  obtain ⟨h0, h1, h2, h3, h4, h5⟩ := h
  rcases List.mem_cons.1 hb with hb | hb
  ·subst hb; omega
  ·have := ih h5 b hb; omega
theorem bj {words : Int} {l : List S35} : ∀ {a : Int} {fr : Bool}, ah words a fr l → l.Pairwise (fun b c => b.f0 + b.f1 ≤ c.f0) := by
 induction l with
 | nil => exact fun _ => List.Pairwise.nil
 | cons c l ih =>
  intro a fr h
  obtain ⟨h0, h1, h2, h3, h4, h5⟩ := h
  refine List.pairwise_cons.2 ⟨fun b hb => ?_, ih h5⟩
  have := af h5 b hb
  omega
theorem cz {words : Int} {l : List S35} : ∀ {a : Int} {fr : Bool}, ah words a fr l → a + 2 * l.length ≤ words := by
 induction l with
 | nil => intro a fr h; have : a = words := h; simp; omega
 | cons c l ih =>
  intro a fr h
  obtain ⟨h0, h1, h2, h3, h4, h5⟩ := h
  have := ih h5
  simp; omega
theorem bf {words : Int} {l : List S35} (h : ah words 0 false l) {j : Int} (h0 : 0 ≤ j) (h1 : j < l.length) :
  0 ≤ (rd_T35 l j).f0 ∧ 2 ≤ (rd_T35 l j).f1 ∧ (rd_T35 l j).f1 ≤ 512 ∧ (rd_T35 l j).f0 + (rd_T35 l j).f1 ≤ words := af h _ (bu h0 h1)
theorem dm {words : Int} {l : List S35} (h : ah words 0 false l) {i j : Int} (h0 : 0 ≤ i) (h1 : i < j) (h2 : j < l.length) : (rd_T35 l i).f0 + (rd_T35 l i).f1 ≤ (rd_T35 l j).f0 := by
 obtain ⟨hi, ei⟩ := bn (l := l) h0 (by omega)
 obtain ⟨hj, ej⟩ := bn (l := l) (j := j) (by omega) h2
 rw [ei, ej]
 exact List.pairwise_iff_getElem.1 (bj h) _ _ hi hj (by omega)
theorem co (n : Int) : chain_mayWords.f n = some (decide (8 ≤ n ∧ n ≤ 512 ∧ n % 8 = 0)) := by
 unfold chain_mayWords.f
 by_cases h1 : n ≥ 8
 ·rw [if_pos h1]
  by_cases h2 : n ≤ 512
  ·rw [if_pos h2, e5 (by omega)]
   congr 1
   rw [Bool.eq_iff_iff, beq_iff_eq, decide_eq_true_iff]
   exact ⟨fun h => ⟨h1, h2, h⟩, fun h => h.2.2⟩
  ·rw [if_neg h2, decide_eq_false (by omega)]
 ·rw [if_neg h1, decide_eq_false (by omega)]
theorem a7 (n : Int) : block_May.f n = some (decide (2 ≤ n ∧ n ≤ 512)) := by
 unfold block_May.f
 by_cases h2 : n ≥ 2
 ·rw [if_pos h2]; congr 1; rw [Bool.eq_iff_iff]; simp only [decide_eq_true_iff]; omega
 ·rw [if_neg h2, decide_eq_false (by omega)]
theorem id {words : Int} (hw : words ≤ 100000) (suf : List S35) : ∀ (pre : List S35) (a : Int) (fr : Bool), 0 ≤ a → a ≤ words → (pre ++ suf).length ≤ 100000 →
  ∃ b, Ev (fun k => chain_May.l0 k words a fr (pre ++ suf) ((pre ++ suf).length : Int) (pre.length : Int)) b ∧ (b = true ↔ ah words a fr suf) := by
 induction suf with
 | nil =>
  intro pre a fr h0 h1 hl
  refine ⟨a == words, Ev.step (fun k => by rw [chain_May.l0]) (ai (by simp) (Ev.now _)), ?_⟩
  rw [beq_iff_eq]; exact Iff.rfl
 | cons x suf ih =>
  intro pre a fr h0 h1 hl
  have e : pre ++ x :: suf = (pre ++ [x]) ++ suf := by simp
  have hlen2 : ((pre ++ [x]).length : Int) = (pre.length : Int) + 1 := by simp
  have hlt : (pre.length : Int) < ((pre ++ x :: suf).length : Int) := by simp; omega
  have w1 : wrap64 ((pre.length : Int) + 1) = (pre.length : Int) + 1 := aq (by simp at hl; omega)
  have w2 : wrap64 (words - a) = words - a := aq (by omega)
  by_cases c1 : x.f0 = a
  ·by_cases c2 : 2 ≤ x.f1 ∧ x.f1 ≤ 512
   ·by_cases c4 : fr = true ∧ x.f2 = false
    ·refine ⟨false, Ev.step (fun k => by rw [chain_May.l0]) ?_, ⟨fun h => (by cases h), fun h => by have := h.2.2.2.2.1 c4.1; rw [c4.2] at this; cases this⟩⟩
     rw [ar]
     exact ac hlt (ac (by omega) (ac hlt (ac c1 (ab (a7 _) (ac (by simp [c2]) (ac c4.1 (ai (by rw [c4.2]; decide) (Ev.now _))))))))
    ·by_cases c3 : x.f1 > words - a
     ·refine ⟨false, Ev.step (fun k => by rw [chain_May.l0]) ?_, ⟨fun h => (by cases h), fun h => by have := h.2.2.2.1; omega⟩⟩
      rw [ar, w2]
      refine ac hlt (ac (by omega) (ac hlt (ac c1 (ab (a7 _) (ac (by simp [c2]) ?_)))))
      exact ak (fun _ => ak (fun _ => ac c3 (Ev.now _)) (fun _ => Ev.now _)) (fun _ => ac c3 (Ev.now _))
     ·have w3 : wrap64 (a + x.f1) = a + x.f1 := aq (by omega)
      obtain ⟨b, hb, hi⟩ := ih (pre ++ [x]) (a + x.f1) (!x.f2) (by omega) (by omega) (by rw [← e]; exact hl)
      rw [hlen2, ← e] at hb
      refine ⟨b, Ev.step (fun k => by rw [chain_May.l0]) ?_, ?_⟩
      ·rw [ar, w2, w1, w3]
       refine ac hlt (ac (by omega) (ac hlt (ac c1 (ab (a7 _) (ac (by simp [c2]) ?_)))))
       refine ak (fun hf => ?_) (fun _ => ai c3 hb)
       refine ac ?_ (ai c3 hb)
       cases hx : x.f2 with
       | true => rfl
       | false => exact absurd ⟨hf, hx⟩ c4
      ·rw [hi]
       constructor
       ·intro h
        exact ⟨c1, c2.1, c2.2, by omega, fun hf => by
         cases hx : x.f2 with
         | true => rfl
         | false => exact absurd ⟨hf, hx⟩ c4, h⟩
       ·exact fun h => h.2.2.2.2.2
   ·refine ⟨false, Ev.step (fun k => by rw [chain_May.l0]) ?_, ⟨fun h => (by cases h), fun h => absurd ⟨h.2.1, h.2.2.1⟩ c2⟩⟩
    rw [ar]
    exact ac hlt (ac (by omega) (ac hlt (ac c1 (ab (a7 _) (ai (by simp; omega) (Ev.now _))))))
  ·refine ⟨false, Ev.step (fun k => by rw [chain_May.l0]) ?_, ⟨fun h => (by cases h), fun h => absurd h.1 c1⟩⟩
   rw [ar]
   exact ac hlt (ac (by omega) (ac hlt (ai c1 (Ev.now _))))
theorem c9 {l : List S35} (words : Int) (hl : l.length ≤ 100000) : ∃ b, Ev (fun k => chain_May.f k l words) b ∧ (b = true ↔ aw l words) := by
 unfold chain_May.f
 by_cases h : 8 ≤ words ∧ words ≤ 512 ∧ words % 8 = 0
 ·obtain ⟨b, hb, hi⟩ := id (words := words) (by omega) l [] 0 false (by omega) (by omega) hl
  refine ⟨b, ab (co words) (ac (by simp [h]) hb), hi.trans ⟨fun hh => ⟨h, hh⟩, fun hh => hh.2⟩⟩
 ·exact ⟨false, ab (co words) (ai (by simpa using h) (Ev.now _)), ⟨fun hh => (by cases hh), fun hh => absurd hh.1 h⟩⟩
theorem cp {l : List S35} {words : Int} (hl : l.length ≤ 100000) (h : aw l words) : Ev (fun k => chain_May.f k l words) true := by
 obtain ⟨b, hb, hi⟩ := c9 words hl
 rwa [hi.2 h] at hb
theorem ie {l : List S35} {words : Int} (hl : l.length ≤ 100000) (h : ¬ aw l words) : Ev (fun k => chain_May.f k l words) false := by
 obtain ⟨b, hb, hi⟩ := c9 words hl
 cases b with
 | true => exact absurd (hi.1 rfl) h
 | false => exact hb
theorem e6 {a b : S35} (h0 : a.f0 = b.f0) (h1 : a.f1 = b.f1) (h2 : a.f2 = b.f2) : a = b := by
 cases a; cases b; simp at h0 h1 h2; simp [h0, h1, h2]
theorem dn {w : Int} (h : 0 ≤ w ∧ w ≤ 18446744073709551615) :
  block_Parse.f w = if 2 ≤ w / 2 ∧ w / 2 ≤ 512 then some (w / 2, w % 2 == 1, true) else some (0, false, false) := by
 unfold block_Parse.f block_May.f
 rw [gd h.1 h.2, aq (by omega)]
 by_cases h1 : w / 2 > 512
 ·rw [if_pos h1, if_neg (by omega)]
 ·rw [if_neg h1]
  by_cases h2 : w / 2 ≥ 2
  ·rw [if_pos h2, if_pos (by omega)]
   simp only [Option.bind_some]
   rw [if_pos (by simp; omega)]
  ·rw [if_neg h2, if_neg (by omega)]; rfl
theorem bv (n : Int) (u : Bool) : block_Word.f n u = some (if 2 ≤ n ∧ n ≤ 512 then 2 * n + (if u then 1 else 0) else 0) := by
 unfold block_Word.f block_May.f
 by_cases h : 2 ≤ n ∧ n ≤ 512
 ·rw [if_pos (by omega), if_pos h]
  simp only [Option.bind_some]
  rw [if_pos (by simp; omega)]
  have e : IntKind.u64.wrap (IntKind.u64.wrap n * 2) = 2 * n := by rw [ia, ia]; omega
  rw [e]
  cases u
  ·simp
  ·simp only [if_true]; rw [ib (by omega) (by omega) (by omega)]
 ·rw [if_neg h]
  by_cases h2 : n ≥ 2
  ·rw [if_pos h2]; simp only [Option.bind_some]; rw [if_neg (by simp; omega)]
  ·rw [if_neg h2]; rfl
def di (w : List Int) : Prop := w.length ≤ 2000 ∧ ∀ j : Int, 0 ≤ rd w j ∧ rd w j ≤ 18446744073709551615
def ba (w : List Int) : Int → List S35 → Prop
 | a, [] => (w.length : Int) ≤ a
 | a, b :: l => a < w.length ∧ b.f0 = a ∧ 2 ≤ rd w a / 2 ∧ rd w a / 2 ≤ 512 ∧ b.f1 = rd w a / 2 ∧ b.f2 = (rd w a % 2 == 1) ∧ ba w (a + b.f1) l
theorem fh {w : List Int} {l : List S35} : ∀ {a : Int} {m : List S35}, ba w a l → ba w a m → l = m := by
 induction l with
 | nil =>
  intro a m h h'
  cases m with
  | nil => rfl
  | cons b m => have h1 : (w.length : Int) ≤ a := h; have := h'.1; omega
 | cons b l ih =>
  intro a m h h'
  cases m with
  | nil => have h1 : (w.length : Int) ≤ a := h'; have := h.1; omega
  | cons c m =>
   obtain ⟨a0, a1, a2, a3, a4, a5, a6⟩ := h
   obtain ⟨b0, b1, b2, b3, b4, b5, b6⟩ := h'
   have e : b = c := e6 (by rw [a1, b1]) (by rw [a4, b4]) (by rw [a5, b5])
   subst e
   rw [ih a6 b6]
def cl (w : List Int) (r : List S35 × Bool) : Prop :=
 (ba w 0 r.1 ∧ aw r.1 w.length ∧ r.2 = true) ∨ ((∀ l, ba w 0 l → ¬ aw l w.length) ∧ r = ([], false))
theorem d9 {w : List Int} {r r' : List S35 × Bool} (h : cl w r) (h' : cl w r') : r = r' := by
 rcases h with ⟨a, b, c⟩ | ⟨a, b⟩
 ·rcases h' with ⟨a', b', c'⟩ | ⟨a', b'⟩
  ·exact Prod.ext (fh a a') (by rw [c, c'])
  ·exact absurd b (a' _ a)
 ·rcases h' with ⟨a', b', c'⟩ | ⟨a', b'⟩
  ·exact absurd b' (a _ a')
  ·rw [b, b']
theorem fi {w : List Int} (hw : di w) (d : Nat) : ∀ (acc : List S35) (a : Int), 0 ≤ a → (w.length : Int) ≤ a + d → a ≤ 3000 → (acc.length : Int) ≤ a →
  ∃ r, Ev (fun k => chain_Blocks.l0 k w acc a) r ∧ ((∃ l, ba w a l ∧ aw (acc ++ l) w.length ∧ r = (acc ++ l, true)) ∨ ((∀ l, ba w a l → ¬ aw (acc ++ l) w.length) ∧ r = ([], false))) := by
 have hlen := hw.1
 have fin : ∀ (acc : List S35) (a : Int), 0 ≤ a → (w.length : Int) ≤ a → a ≤ 3000 → (acc.length : Int) ≤ a →
   ∃ r, Ev (fun k => chain_Blocks.l0 k w acc a) r ∧ ((∃ l, ba w a l ∧ aw (acc ++ l) w.length ∧ r = (acc ++ l, true)) ∨ ((∀ l, ba w a l → ¬ aw (acc ++ l) w.length) ∧ r = ([], false))) := by
  intro acc a h0 h1 h2 h3
  obtain ⟨b, hb, hi⟩ := c9 (l := acc) (w.length : Int) (by omega)
  have pn : ∀ l, ba w a l → l = [] := fun l hl => by
   cases l with
   | nil => rfl
   | cons c l => have := hl.1; omega
  cases b with
  | true =>
   refine ⟨(acc, true), Ev.step (fun k => by rw [chain_Blocks.l0]) ?_, Or.inl ⟨[], h1, by rw [List.append_nil]; exact hi.1 rfl, by rw [List.append_nil]⟩⟩
   exact ai (by omega) (aa hb (ac rfl (Ev.now _)))
  | false =>
   refine ⟨([], false), Ev.step (fun k => by rw [chain_Blocks.l0]) ?_, Or.inr ⟨fun l hl hm => ?_, rfl⟩⟩
   ·exact ai (by omega) (aa hb (ai (by decide) (Ev.now _)))
   ·rw [pn l hl, List.append_nil] at hm
    have := hi.2 hm
    cases this
 induction d with
 | zero => intro acc a h0 h1; exact fin acc a h0 (by omega)
 | succ d ih =>
  intro acc a h0 h1 h2 h3
  by_cases ha : (w.length : Int) ≤ a
  ·exact fin acc a h0 ha h2 h3
  ·have hr := hw.2 a
   by_cases hp : 2 ≤ rd w a / 2 ∧ rd w a / 2 ≤ 512
   ·obtain ⟨r, hb, hi⟩ := ih (acc ++ [(⟨a, rd w a / 2, rd w a % 2 == 1⟩ : S35)]) (a + rd w a / 2) (by omega) (by omega) (by omega) (by simp; omega)
    refine ⟨r, Ev.step (fun k => by rw [chain_Blocks.l0]) ?_, ?_⟩
    ·rw [dn hr, if_pos hp]
     refine ac (by omega) (ac h0 (ab rfl ?_))
     refine ac rfl (ac (by omega) ?_)
     rw [aq (n := a + rd w a / 2) (by omega)]
     exact hb
    ·rcases hi with ⟨l, q1, q2, q3⟩ | ⟨q1, q2⟩
     ·refine Or.inl ⟨(⟨a, rd w a / 2, rd w a % 2 == 1⟩ : S35) :: l, ⟨by omega, rfl, hp.1, hp.2, rfl, rfl, q1⟩, ?_, ?_⟩
      ·rw [List.append_assoc] at q2; exact q2
      ·rw [q3, List.append_assoc]; rfl
     ·refine Or.inr ⟨fun l hl => ?_, q2⟩
      cases l with
      | nil => have hl : (w.length : Int) ≤ a := hl; omega
      | cons b l =>
       obtain ⟨b0, b1, b2, b3, b4, b5, b6⟩ := hl
       have e : b = (⟨a, rd w a / 2, rd w a % 2 == 1⟩ : S35) := e6 b1 b4 b5
       rw [b4] at b6
       have := q1 l b6
       rw [List.append_assoc] at this
       rw [e]; exact this
   ·refine ⟨([], false), Ev.step (fun k => by rw [chain_Blocks.l0]) ?_, Or.inr ⟨fun l hl => ?_, rfl⟩⟩
    ·rw [dn hr, if_neg hp]
     exact ac (by omega) (ac h0 (ab rfl (ai (by decide) (Ev.now _))))
    ·cases l with
     | nil => have hl : (w.length : Int) ≤ a := hl; omega
     | cons b l => exact absurd ⟨hl.2.2.1, hl.2.2.2.1⟩ hp
theorem fj {w : List Int} (hw : di w) : ∃ r, Ev (fun k => chain_Blocks.f k w) r ∧ cl w r := by
 have hlen := hw.1
 obtain ⟨r, h1, h2⟩ := fi hw w.length [] 0 (by omega) (by omega) (by omega) (by simp)
 refine ⟨r, h1, ?_⟩
 rcases h2 with ⟨l, a, b, c⟩ | ⟨a, b⟩
 ·rw [c]; exact Or.inl ⟨a, b, rfl⟩
 ·exact Or.inr ⟨a, b⟩
theorem eb {w : List Int} {l : List S35} (hw : di w) (hp : ba w 0 l) (hm : aw l w.length) : Ev (fun k => chain_Blocks.f k w) (l, true) := by
 obtain ⟨r, h1, h2⟩ := fj hw
 have := d9 h2 (Or.inl ⟨hp, hm, rfl⟩ : cl w (l, true))
 rwa [this] at h1
def be (b : S35) : Int := 2 * b.f1 + (if b.f2 = true then 1 else 0)
theorem je (b : S35) : (be b / 2 = b.f1) ∧ ((be b % 2 == 1) = b.f2) := by
 unfold be
 cases b.f2
 ·rw [if_neg (by decide)]; exact ⟨by omega, by rw [beq_eq_false_iff_ne]; omega⟩
 ·rw [if_pos rfl]; exact ⟨by omega, by rw [beq_iff_eq]; omega⟩
theorem gh {w : List Int} {l : List S35} : ∀ {a : Int} {fr : Bool}, ah w.length a fr l → (∀ b ∈ l, rd w b.f0 = be b) → ba w a l := by
 induction l with
 | nil => intro a fr h _; have h : a = w.length := h; show (w.length : Int) ≤ a; omega
 | cons b l ih =>
  intro a fr h hh
  obtain ⟨h0, h1, h2, h3, h4, h5⟩ := h
  have hb := hh b (by simp)
  rw [h0] at hb
  have hr := je b
  exact ⟨by omega, h0, by rw [hb, hr.1]; exact h1, by rw [hb, hr.1]; exact h2, by rw [hb, hr.1], by rw [hb, hr.2], ih h5 (fun c hc => hh c (by simp [hc]))⟩
theorem gi (n : Int) : chain_First.f n = some (if a8 n then (List.replicate n.toNat 0).set 0 (2 * n) else []) := by
 unfold chain_First.f
 rw [co]
 simp only [Option.bind_some]
 by_cases h : 8 ≤ n ∧ n ≤ 512 ∧ n % 8 = 0
 ·rw [if_pos (by simp [h]), if_pos (by omega), if_pos (by omega), if_pos (show a8 n from h), bv, if_pos (by omega)]
  simp only [Option.bind_some]
  rw [if_pos (by simp; omega)]
  simp
 ·rw [if_neg (by simpa using h), if_neg (show ¬ a8 n from h)]
theorem ee (n : Int) : darningref4_MaySize.f n = some (decide (2 ≤ n ∧ n ≤ 512)) := by
 unfold darningref4_MaySize.f
 by_cases h2 : n ≥ 2
 ·rw [if_pos h2]; congr 1; rw [Bool.eq_iff_iff]; simp only [decide_eq_true_iff]; omega
 ·rw [if_neg h2, decide_eq_false (by omega)]
def ad : List S35 → Int
 | [] => 0
 | b :: l => b.f1 + ad l
theorem fk {words : Int} (suf : List S35) (pre : List S35) : ∀ {a : Int} {fr : Bool}, ah words a fr (pre ++ suf) → ∃ fr', ah words (a + ad pre) fr' suf := by
 induction pre with
 | nil => intro a fr h; exact ⟨fr, by show ah words (a + 0) fr suf; rw [Int.add_zero]; exact h⟩
 | cons b pre ih =>
  intro a fr h
  obtain ⟨c0, c1, c2, c3, c4, c5⟩ := h
  obtain ⟨fr', h'⟩ := ih c5
  refine ⟨fr', ?_⟩
  show ah words (a + (b.f1 + ad pre)) fr' suf
  rw [← Int.add_assoc]; exact h'
theorem bk {words : Int} (l : List S35) {a : Int} {fr : Bool} (h : ah words a fr l) : words = a + ad l := by
 obtain ⟨fr', h'⟩ := fk [] l (by rw [List.append_nil]; exact h)
 have h' : a + ad l = words := h'
 omega
theorem fl {l : List S35} {j : Int} (h0 : 0 ≤ j) (h1 : j + 1 < l.length) : ∃ pre x y suf, l = pre ++ x :: y :: suf ∧ (pre.length : Int) = j := by
 refine ⟨l.take j.toNat, l[j.toNat]'(by omega), l[j.toNat + 1]'(by omega), l.drop (j.toNat + 2), ?_, by rw [List.length_take]; omega⟩
 rw [← List.drop_eq_getElem_cons (by omega), ← List.drop_eq_getElem_cons (by omega)]
 exact (List.take_append_drop _ _).symm
theorem bd {t : List Int} {i : Nat} (v j : Int) (hi : i < t.length) : rd (t.set i v) j = if j.toNat = i then v else rd t j := by
 unfold rd
 rw [List.getD_eq_getElem?_getD, List.getElem?_set, List.getD_eq_getElem?_getD]
 by_cases h : i = j.toNat
 ·rw [if_pos h, if_pos (by omega), if_pos h.symm]; rfl
 ·rw [if_neg h, if_neg (fun e => h e.symm)]
theorem jf (n : Nat) (j : Int) : rd (List.replicate n 0) j = 0 := by
 unfold rd
 rw [List.getD_eq_getElem?_getD, List.getElem?_replicate]
 by_cases h : j.toNat < n
 ·rw [if_pos h]; rfl
 ·rw [if_neg h]; rfl
theorem da {v : List Int} {i : Nat} {x : Int} (hv : di v) (h0 : 0 ≤ x) (h1 : x ≤ 18446744073709551615) : di (v.set i x) := by
 refine ⟨by rw [List.length_set]; exact hv.1, fun j => ?_⟩
 by_cases hi : i < v.length
 ·rw [bd x j hi]
  by_cases h : j.toNat = i
  ·rw [if_pos h]; exact ⟨h0, h1⟩
  ·rw [if_neg h]; exact hv.2 j
 ·rw [List.set_eq_of_length_le (by omega)]; exact hv.2 j
def ay : Bool → List S35 → Bool
 | fr, [] => fr
 | _, b :: l => ay (!b.f2) l
theorem eg (P R : List S35) : ∀ fr, ay fr (P ++ R) = ay (ay fr P) R := by
 induction P with
 | nil => intro fr; rfl
 | cons b P ih => intro fr; exact ih _
theorem a9 (P R : List S35) : ad (P ++ R) = ad P + ad R := by
 induction P with
 | nil => show ad R = 0 + ad R; omega
 | cons b P ih => show b.f1 + ad (P ++ R) = (b.f1 + ad P) + ad R; rw [ih]; omega
theorem bc {words : Int} (P R : List S35) : ∀ {a : Int} {fr : Bool}, ah words a fr (P ++ R) → ah words (a + ad P) (ay fr P) R := by
 induction P with
 | nil => intro a fr h; show ah words (a + 0) fr R; rw [Int.add_zero]; exact h
 | cons b P ih =>
  intro a fr h
  obtain ⟨h0, h1, h2, h3, h4, h5⟩ := h
  have := ih h5
  show ah words (a + (b.f1 + ad P)) (ay (!b.f2) P) R
  rw [← Int.add_assoc]; exact this
theorem dp {words : Int} (P R R' : List S35) : ∀ {a : Int} {fr : Bool}, ah words a fr (P ++ R) → ah words (a + ad P) (ay fr P) R' → ah words a fr (P ++ R') := by
 induction P with
 | nil => intro a fr _ h; have h : ah words (a + 0) fr R' := h; rw [Int.add_zero] at h; exact h
 | cons b P ih =>
  intro a fr h h'
  obtain ⟨h0, h1, h2, h3, h4, h5⟩ := h
  have h' : ah words (a + (b.f1 + ad P)) (ay (!b.f2) P) R' := h'
  rw [← Int.add_assoc] at h'
  exact ⟨h0, h1, h2, h3, h4, ih h5 h'⟩
theorem dq {words : Int} {Q : List S35} {a : Int} {fr : Bool} (fr2 : Bool) (h : ah words a fr Q) (hq : ∀ q Q', Q = q :: Q' → q.f2 = true) : ah words a fr2 Q := by
 cases Q with
 | nil => exact h
 | cons q Q =>
  obtain ⟨h0, h1, h2, h3, h4, h5⟩ := h
  exact ⟨h0, h1, h2, h3, fun _ => hq q Q rfl, h5⟩
theorem cm {words : Int} (P R : List S35) {a : Int} {fr : Bool} (h : ah words a fr (P ++ R)) : 2 * (P.length : Int) ≤ ad P ∧ a + ad P + 2 * R.length ≤ words := by
 constructor
 ·have : ∀ b ∈ P, 2 ≤ b.f1 := fun b hb => (af h b (List.mem_append_left _ hb)).2.1
  clear h
  induction P with
  | nil => show 2 * ((0 : Nat) : Int) ≤ 0; omega
  | cons b P ih =>
   have h1 := ih (fun c hc => this c (List.mem_cons_of_mem _ hc))
   have h2 := this b List.mem_cons_self
   show 2 * (((P.length + 1 : Nat)) : Int) ≤ b.f1 + ad P
   omega
 ·exact cz (bc P R h)
theorem eh {words : Int} {P M Q : List S35} {x : S35} {a : Int} {fr : Bool} (hw : words ≤ 512) (ha : 0 ≤ a) (h : ah words a fr (P ++ (x :: M) ++ Q)) (hp : ay fr P = false)
  (hq : ∀ q Q', Q = q :: Q' → q.f2 = true) : x.f0 = a + ad P ∧ ah words a fr (P ++ (⟨x.f0, ad (x :: M), false⟩ : S35) :: Q) := by
 rw [List.append_assoc] at h
 have h1 := bc P _ h
 rw [hp] at h1
 have n1 := cm P _ h
 have n2 := cm (x :: M) Q h1
 have e0 : x.f0 = a + ad P := h1.1
 refine ⟨e0, dp P _ _ h ?_⟩
 rw [hp]
 simp only [List.length_cons] at n2
 refine ⟨e0, by show 2 ≤ ad (x :: M); omega, by show ad (x :: M) ≤ 512; omega, by show ad (x :: M) ≤ words - (a + ad P); omega, (fun hf => nomatch hf), ?_⟩
 exact dq true (bc (x :: M) Q h1) hq
def ja (l : List S35) : Prop := aw l (ad l)
theorem ek {l : List S35} {w : Int} (h : aw l w) : w = ad l := by have := bk l h.2; omega
-- sums of sizes, as the program and the reference count them
theorem fm (l : List S35) (hl : l.length ≤ 100000) (suf : List S35) : ∀ pre : List S35, l = pre ++ suf → (∀ b ∈ pre, 2 ≤ b.f1 ∧ b.f1 ≤ 512) → 0 ≤ ad pre → ad pre ≤ 1024 →
  ∃ t, Ev (fun k => merge_words.l0 k (ad pre) l (l.length : Int) (pre.length : Int)) t ∧ ((∃ w, aw l w) → t = ad l) ∧ (t = ad l ∨ t = 0) ∧ ((∀ b ∈ l, 2 ≤ b.f1 ∧ b.f1 ≤ 512) → ad l ≤ 512 → t = ad l) := by
 induction suf with
 | nil =>
  intro pre e hp h0 h1
  rw [List.append_nil] at e
  subst e
  exact ⟨ad l, Ev.step (fun k => by rw [merge_words.l0]) (ai (by simp) (Ev.now _)), fun _ => rfl, .inl rfl, fun _ _ => rfl⟩
 | cons x suf ih =>
  intro pre e hp h0 h1
  have hlt : (pre.length : Int) < (l.length : Int) := by rw [e]; simp; omega
  have ex : rd_T35 l (pre.length : Int) = x := by rw [e]; exact ar pre suf x
  by_cases c1 : 2 ≤ x.f1 ∧ x.f1 ≤ 512
  ·by_cases c2 : ad pre > 512
   ·have big : (∀ b ∈ l, 2 ≤ b.f1 ∧ b.f1 ≤ 512) → ¬ ad l ≤ 512 := by
     intro hb hs
     rw [e, a9] at hs
     have : ∀ m : List S35, (∀ b ∈ m, 2 ≤ b.f1 ∧ b.f1 ≤ 512) → 0 ≤ ad m := by
      intro m
      induction m with
      | nil => intro _; exact Int.le_refl _
      | cons c m ihm => intro hc; have q1 := hc c List.mem_cons_self; have q2 := ihm (fun d hd => hc d (List.mem_cons_of_mem _ hd)); show 0 ≤ c.f1 + ad m; omega
     have q := this (x :: suf) (fun b hb' => hb b (by rw [e]; exact List.mem_append_right _ hb'))
     omega
    refine ⟨0, Ev.step (fun k => by rw [merge_words.l0]) ?_, fun ⟨w, hw⟩ => ?_, .inr rfl, fun hb hs => absurd hs (big hb)⟩
    ·rw [ex]
     exact ac hlt (ac (by omega) (ac hlt (ab (a7 _) (ac (by simp [c1]) (ac c2 (Ev.now _))))))
    ·have ht := bk l hw.2
     have hw1 := hw.1
     unfold a8 at hw1
     exact absurd (by omega : ad l ≤ 512) (big (fun b hb => ⟨(af hw.2 b hb).2.1, (af hw.2 b hb).2.2.1⟩))
   ·obtain ⟨t, ht, hi⟩ := ih (pre ++ [x]) (by rw [e]; simp) (by
     intro b hb
     rcases List.mem_append.1 hb with hb | hb
     ·exact hp b hb
     ·rw [List.mem_singleton.1 hb]; exact c1) (by rw [a9]; show 0 ≤ ad pre + (x.f1 + 0); omega) (by rw [a9]; show ad pre + (x.f1 + 0) ≤ 1024; omega)
    have es : ad (pre ++ [x]) = ad pre + x.f1 := by rw [a9]; show ad pre + (x.f1 + 0) = _; omega
    refine ⟨t, Ev.step (fun k => by rw [merge_words.l0]) ?_, hi⟩
    rw [ex, aq (n := ad pre + x.f1) (by omega), aq (n := (pre.length : Int) + 1) (by omega)]
    refine ac hlt (ac (by omega) (ac hlt (ab (a7 _) (ac (by simp [c1]) (ai c2 ?_)))))
    rw [es] at ht
    simpa using ht
  ·refine ⟨0, Ev.step (fun k => by rw [merge_words.l0]) ?_, fun ⟨w, hw⟩ => ?_, .inr rfl, fun hb _ => absurd (hb x (by rw [e]; simp)) c1⟩
   ·rw [ex]
    exact ac hlt (ac (by omega) (ac hlt (ab (a7 _) (ai (by simp; omega) (Ev.now _)))))
   ·have := af hw.2 x (by rw [e]; simp)
    omega
theorem cf {l : List S35} (hl : l.length ≤ 100000) : ∃ t, Ev (fun k => merge_words.f k l) t ∧ ((∃ w, aw l w) → t = ad l) ∧ (t = ad l ∨ t = 0) ∧ ((∀ b ∈ l, 2 ≤ b.f1 ∧ b.f1 ≤ 512) → ad l ≤ 512 → t = ad l) :=
 fm l hl l [] rfl (fun b hb => nomatch hb) (Int.le_refl _) (by show (0 : Int) ≤ 1024; omega)
theorem el {l : List S35} (hl : l.length ≤ 100000) (h : ∀ b ∈ l, 2 ≤ b.f1 ∧ b.f1 ≤ 512) (hs : ad l ≤ 512) : Ev (fun k => merge_words.f k l) (ad l) := by
 obtain ⟨t, ht, _, _, h3⟩ := cf hl
 rwa [h3 h hs] at ht
-- which blocks become one
def ae (l : List S35) (i : Int) : Int := if i > 0 ∧ (rd_T35 l (i - 1)).f2 = false then i - 1 else i
def ce (l : List S35) (i : Int) : Int := if i + 1 < l.length ∧ (rd_T35 l (i + 1)).f2 = false then i + 2 else i + 1
def jq (l : List S35) (i : Int) : Prop := ja l ∧ 0 ≤ i ∧ i < l.length ∧ (rd_T35 l i).f2 = true
theorem en {l : List S35} {i : Int} (hl : l.length ≤ 100000) (h : jq l i) : Ev (fun k => merge_around.f k l i) (ae l i, ce l i, true) := by
 obtain ⟨h1, h2, h3, h4⟩ := h
 unfold merge_around.f
 obtain ⟨t, ht, hi, _⟩ := cf hl
 rw [hi ⟨_, h1⟩] at ht
 refine aa ht (aa (cp hl h1) (ac rfl (ai (by omega) (ai (by omega) (ac h2 (ac h3 ?_))))))
 rw [h4]
 refine Ev.step (fun k => by rw [merge_around.j0]) ?_
 refine ai (by decide) ?_
 rw [aq (n := i - 1) (by omega), aq (n := i + 1) (by omega)]
 have go : ∀ b : Bool, (b = true ↔ (i > 0 ∧ (rd_T35 l (i - 1)).f2 = false)) → Ev (fun k => merge_around.j1 k l i (i + 1) b) (ae l i, ce l i, true) := by
  intro b hb
  refine Ev.step (fun k => by rw [merge_around.j1]) ?_
  rw [aq (n := i - 1) (by omega), aq (n := i + 1 + 1) (by omega)]
  unfold ae ce
  refine ak (fun c => ?_) (fun c => ?_)
  ·rw [if_pos (hb.1 c)]
   refine ak (fun d => ac (by omega) (ak (fun e => ?_) (fun e => ?_))) (fun d => ?_)
   ·rw [if_neg (by simp [e])]; exact Ev.now _
   ·rw [if_pos ⟨d, by simpa using e⟩, show i + 1 + 1 = i + 2 from by omega]; exact Ev.now _
   ·rw [if_neg (fun hh => d hh.1)]; exact Ev.now _
  ·rw [if_neg (fun hh => c (hb.2 hh))]
   refine ak (fun d => ac (by omega) (ak (fun e => ?_) (fun e => ?_))) (fun d => ?_)
   ·rw [if_neg (by simp [e])]; exact Ev.now _
   ·rw [if_pos ⟨d, by simpa using e⟩, show i + 1 + 1 = i + 2 from by omega]; exact Ev.now _
   ·rw [if_neg (fun hh => d hh.1)]; exact Ev.now _
 refine ak (fun c => ac (by omega) (ac (by omega) (go _ ?_))) (fun c => go _ ?_)
 ·simp [c]
 ·simp [c]
theorem fn {l : List S35} {i : Int} (hl : l.length ≤ 100000) (h : ¬ jq l i) : Ev (fun k => merge_around.f k l i) (0, 0, false) := by
 unfold merge_around.f
 obtain ⟨t, ht, hi, ho, _⟩ := cf hl
 have out : Ev (fun k => merge_around.j0 k l i true) (0, 0, false) := by
  refine Ev.step (fun k => by rw [merge_around.j0]) ?_
  exact ac rfl (Ev.now _)
 refine aa ht ?_
 by_cases hm : aw l t
 ·have e : t = ad l := ek hm
  refine aa (cp hl hm) (ac rfl (ak (fun _ => out) (fun c1 => ak (fun _ => out) (fun c2 => ac (by omega) (ac (by omega) ?_)))))
  have : (rd_T35 l i).f2 = false := by
   cases hu : (rd_T35 l i).f2 with
   | false => rfl
   | true => exact absurd ⟨by unfold ja; rw [← e]; exact hm, by omega, by omega, hu⟩ h
  rw [this]; exact out
 ·exact aa (ie hl hm) (ai (by decide) out)
theorem bh {l : List S35} {i : Int} (h : 0 ≤ i ∧ i < l.length) : 0 ≤ ae l i ∧ ae l i ≤ i ∧ i < ce l i ∧ ce l i ≤ l.length := by
 unfold ae ce
 refine ⟨?_, ?_, ?_, ?_⟩
 ·split <;> omega
 ·split <;> omega
 ·split <;> omega
 ·split <;> omega
def mP (l : List S35) (i : Int) : List S35 := l.take (ae l i).toNat
def mM (l : List S35) (i : Int) : List S35 := (l.take (ce l i).toNat).drop (ae l i).toNat
def mQ (l : List S35) (i : Int) : List S35 := l.drop (ce l i).toNat
theorem bw {l : List S35} {i : Int} (h : 0 ≤ i ∧ i < l.length) : l = mP l i ++ mM l i ++ mQ l i := by
 have hf := bh h
 unfold mP mM mQ
 rw [show l.take (ae l i).toNat = (l.take (ce l i).toNat).take (ae l i).toNat from by rw [List.take_take, Nat.min_eq_left (by omega)], List.take_append_drop, List.take_append_drop]
def ig (l : List S35) (i : Int) : List S35 := mP l i ++ [⟨(rd_T35 l (ae l i)).f0, ad (mM l i), false⟩] ++ mQ l i
theorem ii {l : List S35} {i : Int} (h : ja l) (hi : 0 ≤ i ∧ i < l.length) : (∀ b ∈ mM l i, 2 ≤ b.f1 ∧ b.f1 ≤ 512) ∧ ad (mM l i) ≤ 512 := by
 have e := bw hi
 have hc := h.2
 have hw := h.1
 unfold a8 at hw
 constructor
 ·intro b hb
  have := af hc b (by rw [e]; exact List.mem_append_left _ (List.mem_append_right _ hb))
  omega
 ·generalize hs : ad l = w at hc hw
  rw [e, List.append_assoc] at hc
  have n1 := cm _ _ hc
  have n2 := cm _ _ (bc _ _ hc)
  omega
theorem jg {l : List S35} {i : Int} (hi : 0 ≤ i ∧ i < l.length) : (mM l i).length ≤ 3 := by
 unfold mM
 rw [List.length_drop, List.length_take]
 unfold ae ce
 split <;> split <;> omega
def bi (n : Int) (u : Bool) : Int := if 2 ≤ n ∧ n ≤ 512 then 2 * n + (if u then 1 else 0) else 0
theorem fo {l : List S35} {i : Int} (hl : l.length ≤ 1000) (h : jq l i) : Ev (fun k => merge_Edit.f k l i) ((rd_T35 l (ae l i)).f0, bi (ad (mM l i)) false, true) := by
 have hi : 0 ≤ i ∧ i < l.length := ⟨h.2.1, h.2.2.1⟩
 have ft := bh hi
 have g := ii h.1 hi
 have n := jg hi
 unfold merge_Edit.f
 refine aa (en (by omega) h) (ac rfl (ac ft.1 (ac (by show ae l i < _; omega) (ac (by show ae l i ≤ ce l i; omega) (ac ft.2.2.2 ?_)))))
 exact aa (el (l := mM l i) (by omega) g.1 g.2) (ab (bv _ _) (Ev.now _))
theorem gj {l : List S35} {i : Int} (hl : l.length ≤ 1000) (h : ¬ jq l i) : Ev (fun k => merge_Edit.f k l i) (0, 0, false) := by
 unfold merge_Edit.f
 exact aa (fn (by omega) h) (ai (by decide) (Ev.now _))
theorem bx {l : List S35} {n : Int} {q : S35} {Q : List S35} (_h0 : 0 ≤ n) (h : l.drop n.toNat = q :: Q) : rd_T35 l n = q ∧ n < l.length := by
 have h1 := congrArg List.head? h
 rw [List.head?_drop, List.head?_cons] at h1
 have h2 : n.toNat < l.length := by
  rcases Nat.lt_or_ge n.toNat l.length with h | h
  ·exact h
  ·rw [List.getElem?_eq_none h] at h1; cases h1
 refine ⟨?_, by omega⟩
 unfold rd_T35
 rw [List.getD_eq_getElem?_getD, h1]
 rfl
theorem c6 {l : List S35} {words j : Int} (h : ah words 0 false l) (h0 : 0 ≤ j) (h1 : j + 1 < l.length) (hf : (rd_T35 l j).f2 = false) : (rd_T35 l (j + 1)).f2 = true := by
 obtain ⟨pre, x, y, suf, hl, hp⟩ := fl h0 h1
 rw [hl] at h
 have hs := bc pre _ h
 have ex : rd_T35 l j = x := by rw [hl, ← hp]; exact ar pre _ x
 have ey : rd_T35 l (j + 1) = y := by
  rw [hl, ← hp, show pre ++ x :: y :: suf = (pre ++ [x]) ++ y :: suf from by simp, show (pre.length : Int) + 1 = ((pre ++ [x]).length : Int) from by simp]
  exact ar _ suf y
 rw [ex] at hf
 rw [ey]
 exact hs.2.2.2.2.2.2.2.2.2.1 (by rw [hf]; rfl)
theorem dr {l : List S35} {j : Int} (h0 : 0 ≤ j) (h1 : j < l.length) (fr : Bool) : ay fr (l.take (j + 1).toNat) = !(rd_T35 l j).f2 := by
 have e : l.take (j + 1).toNat = l.take j.toNat ++ [rd_T35 l j] := by
  obtain ⟨h, er⟩ := bn h0 h1
  rw [er, show (j + 1).toNat = j.toNat + 1 from by omega, List.take_add_one, List.getElem?_eq_getElem h]
  rfl
 rw [e, eg]
 rfl
theorem ij {l : List S35} {i words : Int} (h : aw l words) (hi : 0 ≤ i ∧ i < l.length) (_hu : (rd_T35 l i).f2 = true) :
  ay false (mP l i) = false ∧ (∃ M, mM l i = rd_T35 l (ae l i) :: M) ∧ (∀ q Q', mQ l i = q :: Q' → q.f2 = true) := by
 have ft := bh hi
 refine ⟨?_, ?_, ?_⟩
 ·unfold mP
  by_cases hz : ae l i = 0
  ·rw [hz]; rfl
  ·have e := dr (l := l) (j := ae l i - 1) (by omega) (by omega) false
   rw [show ae l i - 1 + 1 = ae l i from by omega] at e
   rw [e]
   have : (rd_T35 l (ae l i - 1)).f2 = true := by
    by_cases c : i > 0 ∧ (rd_T35 l (i - 1)).f2 = false
    ·have ef : ae l i = i - 1 := by unfold ae; rw [if_pos c]
     rw [ef] at hz ⊢
     cases hb : (rd_T35 l (i - 1 - 1)).f2 with
     | true => rfl
     | false =>
      have := c6 h.2 (j := i - 1 - 1) (by omega) (by omega) hb
      rw [show i - 1 - 1 + 1 = i - 1 from by omega, c.2] at this
      cases this
    ·have ef : ae l i = i := by unfold ae; rw [if_neg c]
     rw [ef] at hz ⊢
     cases hb : (rd_T35 l (i - 1)).f2 with
     | true => rfl
     | false => exact absurd ⟨by omega, hb⟩ c
   rw [this]; rfl
 ·unfold mM
  have hlen : ((l.take (ce l i).toNat).drop (ae l i).toNat).length ≠ 0 := by
   rw [List.length_drop, List.length_take]; omega
  cases hM : (l.take (ce l i).toNat).drop (ae l i).toNat with
  | nil => rw [hM] at hlen; exact absurd rfl hlen
  | cons x M =>
   refine ⟨M, ?_⟩
   have := (bx ft.1 hM).1
   have e2 : rd_T35 (l.take (ce l i).toNat) (ae l i) = rd_T35 l (ae l i) := by
    unfold rd_T35
    rw [List.getD_eq_getElem?_getD, List.getD_eq_getElem?_getD, List.getElem?_take_of_lt (by omega)]
   rw [← this, e2]
 ·intro q Q' hq
  unfold mQ at hq
  obtain ⟨e, hlt⟩ := bx (by omega) hq
  rw [← e]
  by_cases c : i + 1 < l.length ∧ (rd_T35 l (i + 1)).f2 = false
  ·have et : ce l i = i + 2 := by unfold ce; rw [if_pos c]
   rw [et] at hlt ⊢
   have := c6 h.2 (j := i + 1) (by omega) (by omega) c.2
   rwa [show i + 1 + 1 = i + 2 from by omega] at this
  ·have et : ce l i = i + 1 := by unfold ce; rw [if_neg c]
   rw [et] at hlt ⊢
   cases hb : (rd_T35 l (i + 1)).f2 with
   | true => rfl
   | false => exact absurd ⟨hlt, hb⟩ c
theorem ik {l : List S35} {i words : Int} (h : aw l words) (hi : 0 ≤ i ∧ i < l.length) (hu : (rd_T35 l i).f2 = true) : aw (ig l i) words := by
 obtain ⟨hp, ⟨M, hM⟩, hq⟩ := ij h hi hu
 have hw := h.1
 have hc := h.2
 unfold a8 at hw
 rw [bw hi, hM] at hc
 have := (eh (by omega) (Int.le_refl _) hc hp hq).2
 refine ⟨h.1, ?_⟩
 unfold ig
 rw [List.append_assoc, hM]
 exact this
theorem gk {l : List S35} {i words : Int} (h : aw l words) (hi : 0 ≤ i ∧ i < l.length) (hu : (rd_T35 l i).f2 = true) : jq l i := by
 refine ⟨?_, hi.1, hi.2, hu⟩
 unfold ja
 rw [← ek h]
 exact h
-- sums of sizes, as the program and the reference count them
theorem fp (l : List S35) (hl : l.length ≤ 100000) (suf : List S35) : ∀ pre : List S35, l = pre ++ suf → (∀ b ∈ pre, 2 ≤ b.f1 ∧ b.f1 ≤ 512) → 0 ≤ ad pre → ad pre ≤ 1024 →
  ∃ t, Ev (fun k => carve_words.l0 k (ad pre) l (l.length : Int) (pre.length : Int)) t ∧ ((∃ w, aw l w) → t = ad l) ∧ (t = ad l ∨ t = 0) ∧ ((∀ b ∈ l, 2 ≤ b.f1 ∧ b.f1 ≤ 512) → ad l ≤ 512 → t = ad l) := by
 induction suf with
 | nil =>
  intro pre e hp h0 h1
  rw [List.append_nil] at e
  subst e
  exact ⟨ad l, Ev.step (fun k => by rw [carve_words.l0]) (ai (by simp) (Ev.now _)), fun _ => rfl, .inl rfl, fun _ _ => rfl⟩
 | cons x suf ih =>
  intro pre e hp h0 h1
  have hlt : (pre.length : Int) < (l.length : Int) := by rw [e]; simp; omega
  have ex : rd_T35 l (pre.length : Int) = x := by rw [e]; exact ar pre suf x
  by_cases c1 : 2 ≤ x.f1 ∧ x.f1 ≤ 512
  ·by_cases c2 : ad pre > 512
   ·have big : (∀ b ∈ l, 2 ≤ b.f1 ∧ b.f1 ≤ 512) → ¬ ad l ≤ 512 := by
     intro hb hs
     rw [e, a9] at hs
     have : ∀ m : List S35, (∀ b ∈ m, 2 ≤ b.f1 ∧ b.f1 ≤ 512) → 0 ≤ ad m := by
      intro m
      induction m with
      | nil => intro _; exact Int.le_refl _
      | cons c m ihm => intro hc; have q1 := hc c List.mem_cons_self; have q2 := ihm (fun d hd => hc d (List.mem_cons_of_mem _ hd)); show 0 ≤ c.f1 + ad m; omega
     have q := this (x :: suf) (fun b hb' => hb b (by rw [e]; exact List.mem_append_right _ hb'))
     omega
    refine ⟨0, Ev.step (fun k => by rw [carve_words.l0]) ?_, fun ⟨w, hw⟩ => ?_, .inr rfl, fun hb hs => absurd hs (big hb)⟩
    ·rw [ex]
     exact ac hlt (ac (by omega) (ac hlt (ab (a7 _) (ac (by simp [c1]) (ac c2 (Ev.now _))))))
    ·have ht := bk l hw.2
     have hw1 := hw.1
     unfold a8 at hw1
     exact absurd (by omega : ad l ≤ 512) (big (fun b hb => ⟨(af hw.2 b hb).2.1, (af hw.2 b hb).2.2.1⟩))
   ·obtain ⟨t, ht, hi⟩ := ih (pre ++ [x]) (by rw [e]; simp) (by
     intro b hb
     rcases List.mem_append.1 hb with hb | hb
     ·exact hp b hb
     ·rw [List.mem_singleton.1 hb]; exact c1) (by rw [a9]; show 0 ≤ ad pre + (x.f1 + 0); omega) (by rw [a9]; show ad pre + (x.f1 + 0) ≤ 1024; omega)
    have es : ad (pre ++ [x]) = ad pre + x.f1 := by rw [a9]; show ad pre + (x.f1 + 0) = _; omega
    refine ⟨t, Ev.step (fun k => by rw [carve_words.l0]) ?_, hi⟩
    rw [ex, aq (n := ad pre + x.f1) (by omega), aq (n := (pre.length : Int) + 1) (by omega)]
    refine ac hlt (ac (by omega) (ac hlt (ab (a7 _) (ac (by simp [c1]) (ai c2 ?_)))))
    rw [es] at ht
    simpa using ht
  ·refine ⟨0, Ev.step (fun k => by rw [carve_words.l0]) ?_, fun ⟨w, hw⟩ => ?_, .inr rfl, fun hb _ => absurd (hb x (by rw [e]; simp)) c1⟩
   ·rw [ex]
    exact ac hlt (ac (by omega) (ac hlt (ab (a7 _) (ai (by simp; omega) (Ev.now _)))))
   ·have := af hw.2 x (by rw [e]; simp)
    omega
theorem fq {l : List S35} (hl : l.length ≤ 100000) : ∃ t, Ev (fun k => carve_words.f k l) t ∧ ((∃ w, aw l w) → t = ad l) ∧ (t = ad l ∨ t = 0) ∧ ((∀ b ∈ l, 2 ≤ b.f1 ∧ b.f1 ≤ 512) → ad l ≤ 512 → t = ad l) :=
 fp l hl l [] rfl (fun b hb => nomatch hb) (Int.le_refl _) (by show (0 : Int) ≤ 1024; omega)
def tk (s need : Int) : Int := if need < 2 ∨ need > s then 0 else if s - need < 2 then s else need
theorem gl {s n : Int} (hs : 2 ≤ s ∧ s ≤ 512) : Ev (fun k => fit_Takes.f k s n) (tk s n) := by
 unfold fit_Takes.f tk
 by_cases c : n < 2
 ·rw [if_pos (.inl c)]
  refine ac c (Ev.step (fun k => by rw [fit_Takes.j0]) (ac rfl (Ev.now _)))
 ·refine ai c ?_
  by_cases d : n > s
  ·rw [if_pos (.inr d), decide_eq_true d]
   exact Ev.step (fun k => by rw [fit_Takes.j0]) (ac rfl (Ev.now _))
  ·rw [if_neg (by omega), decide_eq_false d]
   refine Ev.step (fun k => by rw [fit_Takes.j0]) (ai (by decide) ?_)
   rw [aq (n := s - n) (by omega)]
   refine ak (fun e => ?_) (fun e => ?_)
   ·rw [if_pos e]; exact Ev.now _
   ·rw [if_neg e]; exact Ev.now _
theorem fu {s n : Int} (h : tk s n ≠ 0) (hs : 2 ≤ s) : 2 ≤ tk s n ∧ tk s n ≤ s ∧ (tk s n < s → 2 ≤ s - tk s n) ∧ 2 ≤ n ∧ n ≤ tk s n := by
 unfold tk at h ⊢
 split at h
 ·exact absurd rfl h
 ·rename_i c
  rw [if_neg c]
  split <;> omega
theorem il {s n : Int} (hs : 2 ≤ s) : tk s n = 0 ↔ (n < 2 ∨ n > s) := by
 unfold tk
 split
 ·rename_i c; exact ⟨fun _ => c, fun _ => rfl⟩
 ·rename_i c
  split
  ·exact ⟨fun h => by omega, fun h => absurd h c⟩
  ·exact ⟨fun h => by omega, fun h => absurd h c⟩
def ds (l : List S35) (i need : Int) : Prop := ja l ∧ 0 ≤ i ∧ i < l.length ∧ (rd_T35 l i).f2 = false ∧ tk (rd_T35 l i).f1 need ≠ 0
def gm (b : S35) (need : Int) : List S35 := ⟨b.f0, tk b.f1 need, true⟩ :: (if tk b.f1 need < b.f1 then [⟨b.f0 + tk b.f1 need, b.f1 - tk b.f1 need, false⟩] else [])
def e7 (l : List S35) (i need : Int) : List S35 := l.take i.toNat ++ gm (rd_T35 l i) need ++ l.drop (i.toNat + 1)
theorem bl {l : List S35} {i : Int} (h : ja l) (h0 : 0 ≤ i) (h1 : i < l.length) : 0 ≤ (rd_T35 l i).f0 ∧ 2 ≤ (rd_T35 l i).f1 ∧ (rd_T35 l i).f1 ≤ 512 ∧ (rd_T35 l i).f0 + (rd_T35 l i).f1 ≤ 512 := by
 have := bf h.2 h0 h1
 have hw := h.1
 unfold a8 at hw
 omega
theorem fv {l : List S35} {i need : Int} (hl : l.length ≤ 100000) (h : ds l i need) : Ev (fun k => carve_taken.f k l i need) (gm (rd_T35 l i) need) := by
 obtain ⟨h1, h2, h3, h4, h5⟩ := h
 have hr := bl h1 h2 h3
 have ht := fu h5 hr.2.1
 unfold carve_taken.f
 obtain ⟨t, hw, hi, _⟩ := fq hl
 rw [hi ⟨_, h1⟩] at hw
 refine aa hw (aa (cp hl h1) (ac rfl (ai (by omega) (ai (by omega) (ac h2 (ac h3 ?_))))))
 rw [h4]
 refine Ev.step (fun k => by rw [carve_taken.j0]) ?_
 refine ai (by decide) (ac h2 (ac h3 (aa (gl ⟨by omega, by omega⟩) (ai h5 (ab rfl ?_)))))
 rw [aq (n := (rd_T35 l i).f0 + tk (rd_T35 l i).f1 need) (by omega), aq (n := (rd_T35 l i).f1 - tk (rd_T35 l i).f1 need) (by omega)]
 unfold gm
 refine ak (fun c => ac (by simp) ?_) (fun c => ?_)
 ·rw [if_pos c]; exact Ev.now _
 ·rw [if_neg c]; exact Ev.now _
def bb (n : Int) (u : Bool) : Int := if 2 ≤ n ∧ n ≤ 512 then 2 * n + (if u then 1 else 0) else 0
def au (a k : Int) : Nat → List S30
 | 0 => []
 | n + 1 => ⟨a + k, 0⟩ :: au a (k + 1) n
theorem cj (a : Int) (n : Nat) : ∀ k, (au a k n).length = n := by
 induction n with
 | zero => intro k; rfl
 | succ n ih => intro k; show (au a (k + 1) n).length + 1 = n + 1; rw [ih]
def d8 (b : S35) (need : Int) : List S30 :=
 ⟨b.f0, bb (tk b.f1 need) true⟩ :: (au b.f0 1 (tk b.f1 need - 1).toNat ++ (if tk b.f1 need < b.f1 then [⟨b.f0 + tk b.f1 need, bb (b.f1 - tk b.f1 need) false⟩] else []))
theorem gn (l : List S35) (n b0 b1 : Int) (r : List S30) (u : Bool) (hb : 0 ≤ b0 ∧ b0 ≤ 1000 ∧ b1 ≤ 1000) (d : Nat) : ∀ (acc : List S30) (k : Int), 0 ≤ k → k + d = b1 → u = true → acc.length + d ≤ 100000 →
  Ev (fun j => carve_Edits.l0 j (acc ++ au b0 k d) l (l.length : Int) (wrap64 (n + 1))) r →
  Ev (fun j => carve_Edits.l1 j acc k l (l.length : Int) n b0 b1 u) r := by
 induction d with
 | zero =>
  intro acc k h0 h1 hu hl hg
  refine Ev.step (fun j => by rw [carve_Edits.l1]) ?_
  refine ai (by omega) ?_
  have e : acc ++ au b0 k 0 = acc := List.append_nil _
  rwa [e] at hg
 | succ d ih =>
  intro acc k h0 h1 hu hl hg
  refine Ev.step (fun j => by rw [carve_Edits.l1]) ?_
  refine ac (by omega) (ac hu (ac (by omega) ?_))
  rw [aq (n := b0 + k) (by omega), aq (n := k + 1) (by omega)]
  refine ih (acc ++ [⟨b0 + k, 0⟩]) (k + 1) (by omega) (by omega) hu (by simp; omega) ?_
  have e : acc ++ au b0 k (d + 1) = acc ++ [⟨b0 + k, 0⟩] ++ au b0 (k + 1) d := by
   show acc ++ (⟨b0 + k, 0⟩ :: au b0 (k + 1) d) = _
   simp
  rwa [e] at hg
theorem ep {l : List S35} {i need : Int} (hl : l.length ≤ 1000) (h : ds l i need) : Ev (fun k => carve_Edits.f k l i need) (d8 (rd_T35 l i) need) := by
 have hr := bl h.1 h.2.1 h.2.2.1
 have ht := fu h.2.2.2.2 hr.2.1
 unfold carve_Edits.f
 refine aa (fv (by omega) h) ?_
 generalize hb : rd_T35 l i = b at hr ht
 unfold gm d8
 generalize tk b.f1 need = t at ht
 by_cases c : t < b.f1
 ·rw [if_pos c, if_pos c]
  have hL : (([⟨b.f0, t, true⟩, ⟨b.f0 + t, b.f1 - t, false⟩] : List S35).length : Int) = 2 := rfl
  refine Ev.step (fun j => by rw [carve_Edits.l0]) ?_
  refine ac (by simp) (ac (by decide) (ac (by simp) ?_))
  rw [show rd_T35 ([⟨b.f0, t, true⟩, ⟨b.f0 + t, b.f1 - t, false⟩] : List S35) 0 = ⟨b.f0, t, true⟩ from rfl]
  refine ab (bv t true) (ac (by simp) ?_)
  refine gn _ 0 b.f0 t _ true ⟨by omega, by omega, by omega⟩ (t - 1).toNat _ 1 (by omega) (by omega) rfl (by simp; omega) ?_
  refine Ev.step (fun j => by rw [carve_Edits.l0]) ?_
  rw [show wrap64 ((0 : Int) + 1) = 1 from aq (by decide)]
  refine ac (by simp) (ac (by decide) (ac (by simp) ?_))
  rw [show rd_T35 ([⟨b.f0, t, true⟩, ⟨b.f0 + t, b.f1 - t, false⟩] : List S35) 1 = ⟨b.f0 + t, b.f1 - t, false⟩ from rfl]
  refine ab (bv (b.f1 - t) false) (ac (by rw [List.length_append, cj]; simp; omega) ?_)
  refine Ev.step (fun j => by rw [carve_Edits.l1]) ?_
  refine ac (by have := ht.2.2.1 c; dsimp only; omega) (ai (by simp) ?_)
  refine Ev.step (fun j => by rw [carve_Edits.l0]) ?_
  rw [show wrap64 ((1 : Int) + 1) = 2 from aq (by decide)]
  refine ai (by simp) (c8 ?_)
  unfold bb
  simp
 ·rw [if_neg c, if_neg c]
  refine Ev.step (fun j => by rw [carve_Edits.l0]) ?_
  refine ac (by simp) (ac (by decide) (ac (by simp) ?_))
  rw [show rd_T35 ([⟨b.f0, t, true⟩] : List S35) 0 = ⟨b.f0, t, true⟩ from rfl]
  refine ab (bv t true) (ac (by simp) ?_)
  refine gn _ 0 b.f0 t _ true ⟨by omega, by omega, by omega⟩ (t - 1).toNat _ 1 (by omega) (by omega) rfl (by simp; omega) ?_
  refine Ev.step (fun j => by rw [carve_Edits.l0]) ?_
  rw [show wrap64 ((0 : Int) + 1) = 1 from aq (by decide)]
  refine ai (by simp) (c8 ?_)
  unfold bb
  simp
theorem im {b : S35} {need : Int} (h : 2 ≤ tk b.f1 need) : ((d8 b need).length : Int) = tk b.f1 need + (if tk b.f1 need < b.f1 then 1 else 0) := by
 unfold d8
 rw [List.length_cons, List.length_append, cj]
 split
 ·simp only [List.length_cons, List.length_nil]; omega
 ·simp only [List.length_nil]; omega
theorem bz {l : List S35} {i : Int} (h0 : 0 ≤ i) (h1 : i < l.length) : l = l.take i.toNat ++ rd_T35 l i :: l.drop (i.toNat + 1) := by
 obtain ⟨h, e⟩ := bn h0 h1
 rw [e, ← List.drop_eq_getElem_cons h]
 exact (List.take_append_drop _ _).symm
theorem io {l : List S35} {i need words : Int} (hC : aw l words) (h : ds l i need) : aw (e7 l i need) words := by
 obtain ⟨h1, h2, h3, h4, h5⟩ := h
 have hr := bl h1 h2 h3
 have ht := fu h5 hr.2.1
 have hc := hC.2
 rw [bz h2 h3] at hc
 have hs := bc _ _ hc
 obtain ⟨k0, k1, k2, k3, k4, k5⟩ := hs
 rw [h4] at k4 k5
 have hfr : ay false (l.take i.toNat) = false := by
  cases hf : ay false (l.take i.toNat) with
  | false => rfl
  | true => have := k4 hf; cases this
 have hq : ∀ q Q', l.drop (i.toNat + 1) = q :: Q' → q.f2 = true := by
  intro q Q' e
  rw [e] at k5
  exact k5.2.2.2.2.1 rfl
 refine ⟨hC.1, ?_⟩
 unfold e7
 rw [List.append_assoc]
 refine dp _ _ _ hc ?_
 rw [hfr]
 unfold gm
 split
 ·rename_i c
  have := ht.2.2.1 c
  refine ⟨k0, by dsimp only; omega, by dsimp only; omega, by dsimp only; omega, (fun hh => nomatch hh), ?_⟩
  refine ⟨by dsimp only; omega, by dsimp only; omega, by dsimp only; omega, by dsimp only; omega, (fun hh => nomatch hh), ?_⟩
  dsimp only
  have e : 0 + ad (l.take i.toNat) + tk (rd_T35 l i).f1 need + ((rd_T35 l i).f1 - tk (rd_T35 l i).f1 need) = 0 + ad (l.take i.toNat) + (rd_T35 l i).f1 := by omega
  rw [e]
  exact k5
 ·rename_i c
  have e : tk (rd_T35 l i).f1 need = (rd_T35 l i).f1 := by omega
  refine ⟨k0, by dsimp only; omega, by dsimp only; omega, by dsimp only; omega, (fun hh => nomatch hh), ?_⟩
  dsimp only
  rw [e]
  exact dq _ k5 hq
theorem jh {l : List S35} {i need : Int} (h0 : 0 ≤ i) (h1 : i < l.length) : rd_T35 (e7 l i need) i = ⟨(rd_T35 l i).f0, tk (rd_T35 l i).f1 need, true⟩ ∧
  ((e7 l i need).length : Int) = l.length + (if tk (rd_T35 l i).f1 need < (rd_T35 l i).f1 then 1 else 0) := by
 have hp : (((l.take i.toNat).length : Nat) : Int) = i := by rw [List.length_take]; omega
 constructor
 ·unfold e7 gm
  rw [List.append_assoc, List.cons_append]
  have := ar (l.take i.toNat) ((if tk (rd_T35 l i).f1 need < (rd_T35 l i).f1 then [(⟨(rd_T35 l i).f0 + tk (rd_T35 l i).f1 need, (rd_T35 l i).f1 - tk (rd_T35 l i).f1 need, false⟩ : S35)] else []) ++ l.drop (i.toNat + 1)) ⟨(rd_T35 l i).f0, tk (rd_T35 l i).f1 need, true⟩
  rwa [hp] at this
 ·unfold e7 gm
  rw [List.length_append, List.length_append, List.length_take, List.length_drop]
  split
  ·simp only [List.length_cons, List.length_nil]; omega
  ·simp only [List.length_cons, List.length_nil]; omega
theorem ip {l : List S35} {i need words : Int} (hC : aw l words) (h0 : 0 ≤ i) (h1 : i < l.length) (hn : 2 ≤ need) : ds l i need ↔ ((rd_T35 l i).f2 = false ∧ need ≤ (rd_T35 l i).f1) := by
 have hB : ja l := by unfold ja; rw [← ek hC]; exact hC
 have hr := bl hB h0 h1
 have hz := il (s := (rd_T35 l i).f1) (n := need) hr.2.1
 constructor
 ·rintro ⟨_, _, _, h4, h5⟩
  refine ⟨h4, ?_⟩
  by_cases c : need ≤ (rd_T35 l i).f1
  ·exact c
  ·exact absurd (hz.2 (by omega)) h5
 ·rintro ⟨h4, h5⟩
  exact ⟨hB, h0, h1, h4, fun e => by have := hz.1 e; omega⟩
def bo : List Int → List S30 → List Int
 | v, [] => v
 | v, e :: es => bo (if 0 ≤ e.f0 ∧ e.f0 < v.length then v.set e.f0.toNat e.f1 else v) es
theorem b7 (es : List S30) : ∀ v, (bo v es).length = v.length := by
 induction es with
 | nil => intro v; rfl
 | cons e es ih =>
  intro v
  show (bo _ es).length = _
  rw [ih]
  split
  ·rw [List.length_set]
  ·rfl
theorem e8 (es fs : List S30) : ∀ v, bo v (es ++ fs) = bo (bo v es) fs := by
 induction es with
 | nil => intro v; rfl
 | cons e es ih => intro v; exact ih _
theorem iq (es : List S30) : ∀ v, di v → (∀ e ∈ es, 0 ≤ e.f1 ∧ e.f1 ≤ 18446744073709551615) → di (bo v es) := by
 induction es with
 | nil => intro v h _; exact h
 | cons e es ih =>
  intro v h he
  refine ih _ ?_ (fun x hx => he x (List.mem_cons_of_mem _ hx))
  have := he e List.mem_cons_self
  split
  ·exact da h this.1 this.2
  ·exact h
theorem db (pre suf : List S30) (x : S30) : rd_T30 (pre ++ x :: suf) (pre.length : Int) = x := by
 unfold rd_T30
 rw [List.getD_eq_getElem?_getD, Int.toNat_natCast, List.getElem?_append_right (by omega)]
 simp
theorem gp (es : List S30) (hl : es.length ≤ 100000) (suf : List S30) : ∀ (pre : List S30) (v : List Int), es = pre ++ suf → Ev (fun k => darningref4_Apply.l0 k v es (es.length : Int) (pre.length : Int)) (bo v suf) := by
 induction suf with
 | nil =>
  intro pre v he
  refine Ev.step (fun k => by rw [darningref4_Apply.l0]) ?_
  exact ai (by rw [he]; simp) (Ev.now _)
 | cons x suf ih =>
  intro pre v he
  have hlt : (pre.length : Int) < (es.length : Int) := by rw [he]; simp; omega
  have em : rd_T30 es (pre.length : Int) = x := by rw [he]; exact db pre suf x
  have w1 : wrap64 ((pre.length : Int) + 1) = ((pre ++ [x]).length : Int) := by rw [aq (by omega)]; simp
  have go := fun v' => ih (pre ++ [x]) v' (by rw [he]; simp)
  refine Ev.step (fun k => by rw [darningref4_Apply.l0]) ?_
  rw [em, w1]
  refine ac hlt (ac (by omega) (ac hlt (ak (fun c => ak (fun d => ac c ?_) (fun d => ?_)) (fun c => ?_))))
  ·have := go (v.set x.f0.toNat x.f1)
   show Ev _ (bo (if 0 ≤ x.f0 ∧ x.f0 < v.length then v.set x.f0.toNat x.f1 else v) suf)
   rw [if_pos ⟨c, d⟩]
   exact this
  ·show Ev _ (bo (if 0 ≤ x.f0 ∧ x.f0 < v.length then v.set x.f0.toNat x.f1 else v) suf)
   rw [if_neg (fun h => d h.2)]
   exact go v
  ·show Ev _ (bo (if 0 ≤ x.f0 ∧ x.f0 < v.length then v.set x.f0.toNat x.f1 else v) suf)
   rw [if_neg (fun h => c h.1)]
   exact go v
theorem b8 {v : List Int} {es : List S30} (hv : v.length ≤ 100000) (hl : es.length ≤ 100000) : Ev (fun k => darningref4_Apply.f k v es) (bo v es) := by
 unfold darningref4_Apply.f
 refine ac (by simp only [List.length_nil]; omega) ?_
 rw [List.nil_append]
 exact gp es hl es [] v rfl
theorem ir (a : Int) (n : Nat) (ha : 0 ≤ a) : ∀ (v : List Int) (k j : Int), 0 ≤ k → a + k + n ≤ v.length → 0 ≤ j → rd (bo v (au a k n)) j = if a + k ≤ j ∧ j < a + k + n then 0 else rd v j := by
 induction n with
 | zero => intro v k j h0 h1 h2; rw [if_neg (by omega)]; rfl
 | succ n ih =>
  intro v k j h0 h1 h2
  show rd (bo (if 0 ≤ a + k ∧ a + k < v.length then v.set (a + k).toNat 0 else v) (au a (k + 1) n)) j = _
  rw [if_pos (by omega), ih _ (k + 1) j (by omega) (by rw [List.length_set]; omega) h2, bd _ _ (by omega)]
  by_cases c : j = a + k
  ·rw [if_neg (by omega), if_pos (by omega), if_pos (by omega)]
  ·rw [if_neg (show ¬ j.toNat = (a + k).toNat by omega)]
   by_cases d : a + (k + 1) ≤ j ∧ j < a + (k + 1) + n
   ·rw [if_pos d, if_pos (by omega)]
   ·rw [if_neg d, if_neg (by omega)]
theorem iu {a : Int} {n : Nat} : ∀ {k : Int} {e : S30}, e ∈ au a k n → e.f1 = 0 := by
 induction n with
 | zero => intro k e h; cases h
 | succ n ih =>
  intro k e h
  rcases List.mem_cons.1 h with h | h
  ·rw [h]
  ·exact ih h
theorem jb {n : Int} {u : Bool} (h : 2 ≤ n ∧ n ≤ 512) : bb n u = 2 * n + (if u = true then 1 else 0) := by
 unfold bb
 rw [if_pos h]
theorem eq {v : List Int} {b : S35} {need : Int} (hb : 0 ≤ b.f0) (hv : b.f0 + b.f1 ≤ v.length) (h2 : 2 ≤ tk b.f1 need) (ht : tk b.f1 need ≤ b.f1) {j : Int} (h0 : 0 ≤ j) :
  rd (bo v (d8 b need)) j = if j = b.f0 + tk b.f1 need ∧ tk b.f1 need < b.f1 then bb (b.f1 - tk b.f1 need) false else if b.f0 < j ∧ j < b.f0 + tk b.f1 need then 0 else if j = b.f0 then bb (tk b.f1 need) true else rd v j := by
 unfold d8
 show rd (bo (if 0 ≤ b.f0 ∧ b.f0 < v.length then v.set b.f0.toNat (bb (tk b.f1 need) true) else v) _) j = _
 rw [if_pos (by omega), e8]
 have hn : ∀ i : Int, 0 ≤ i → rd (bo (v.set b.f0.toNat (bb (tk b.f1 need) true)) (au b.f0 1 (tk b.f1 need - 1).toNat)) i = if b.f0 < i ∧ i < b.f0 + tk b.f1 need then 0 else if i = b.f0 then bb (tk b.f1 need) true else rd v i := by
  intro i hi
  rw [ir b.f0 _ hb _ 1 i (by omega) (by rw [List.length_set]; omega) hi, bd _ _ (by omega)]
  by_cases c : b.f0 < i ∧ i < b.f0 + tk b.f1 need
  ·rw [if_pos c, if_pos (by omega)]
  ·rw [if_neg c, if_neg (by omega)]
   by_cases d : i = b.f0
   ·rw [if_pos d, if_pos (by omega)]
   ·rw [if_neg d, if_neg (by omega)]
 by_cases c : tk b.f1 need < b.f1
 ·rw [if_pos c]
  show rd (if 0 ≤ b.f0 + tk b.f1 need ∧ b.f0 + tk b.f1 need < _ then (bo (v.set b.f0.toNat (bb (tk b.f1 need) true)) (au b.f0 1 (tk b.f1 need - 1).toNat)).set (b.f0 + tk b.f1 need).toNat (bb (b.f1 - tk b.f1 need) false) else _) j = _
  rw [if_pos (by rw [b7, List.length_set]; omega), bd _ _ (by rw [b7, List.length_set]; omega)]
  by_cases d : j = b.f0 + tk b.f1 need
  ·rw [if_pos (by omega), if_pos ⟨d, c⟩]
  ·rw [if_neg (by omega), if_neg (fun h => d h.1), hn j h0]
 ·rw [if_neg c, if_neg (fun h => c h.2)]
  exact hn j h0
theorem iv (b : S35) (need : Int) : ∀ e ∈ d8 b need, 0 ≤ e.f1 ∧ e.f1 ≤ 18446744073709551615 := by
 have hh : ∀ (n : Int) (u : Bool), 0 ≤ bb n u ∧ bb n u ≤ 18446744073709551615 := by
  intro n u
  unfold bb
  split
  ·split <;> omega
  ·omega
 intro e he
 unfold d8 at he
 rcases List.mem_cons.1 he with he | he
 ·rw [he]; exact hh _ _
 ·rcases List.mem_append.1 he with he | he
  ·rw [iu he]; omega
  ·split at he
   ·rw [List.mem_singleton.1 he]; exact hh _ _
   ·cases he
theorem fw {l : List S35} {i need words : Int} {v : List Int} (hC : aw l words) (h : ds l i need) (hv : (v.length : Int) = words) (hH : ∀ b ∈ l, rd v b.f0 = be b) : ∀ b ∈ e7 l i need, rd (bo v (d8 (rd_T35 l i) need)) b.f0 = be b := by
 obtain ⟨h1, h2, h3, h4, h5⟩ := h
 have hr := bl h1 h2 h3
 have ht := fu h5 hr.2.1
 have hrw := bf hC.2 h2 h3
 have hw := hC.1
 unfold a8 at hw
 have hup := bj hC.2
 have hl := bz h2 h3
 have hlm : ∀ b ∈ l.take i.toNat, b ∈ l := fun b hb => List.mem_of_mem_take hb
 have hdm : ∀ b ∈ l.drop (i.toNat + 1), b ∈ l := fun b hb => List.mem_of_mem_drop hb
 rw [hl] at hup
 rw [List.pairwise_append] at hup
 intro b hb
 have rdv := fun (j : Int) (j0 : 0 ≤ j) => eq (v := v) (b := rd_T35 l i) (need := need) hr.1 (by omega) ht.1 ht.2.1 j0
 unfold e7 at hb
 rcases List.mem_append.1 hb with hb | hb
 ·rcases List.mem_append.1 hb with hb | hb
  ·have hx := hup.2.2 b hb _ List.mem_cons_self
   have hm := af hC.2 b (hlm b hb)
   rw [rdv b.f0 (by omega), if_neg (by omega), if_neg (by omega), if_neg (by omega)]
   exact hH b (hlm b hb)
  ·unfold gm at hb
   rcases List.mem_cons.1 hb with hb | hb
   ·rw [hb]
    dsimp only
    rw [rdv _ (by omega), if_neg (by omega), if_neg (by omega), if_pos rfl, jb (by omega)]
    rfl
   ·split at hb
    ·rename_i c
     have := ht.2.2.1 c
     rw [List.mem_singleton.1 hb]
     dsimp only
     rw [rdv _ (by omega), if_pos ⟨rfl, c⟩, jb (by omega)]
     rfl
    ·cases hb
 ·have hx := (List.pairwise_cons.1 hup.2.1).1 b hb
  have hm := af hC.2 b (hdm b hb)
  rw [rdv b.f0 (by omega), if_neg (by omega), if_neg (by omega), if_neg (by omega)]
  exact hH b (hdm b hb)
def Wf (l : List S35) : Prop := l.length ≤ 1000 ∧ ∀ j : Int, -9223372036854775808 ≤ (rd_T35 l j).f0 ∧ (rd_T35 l j).f0 ≤ 9223372036854775807 ∧ -9223372036854775808 ≤ (rd_T35 l j).f1 ∧ (rd_T35 l j).f1 ≤ 9223372036854775807
def dj (l : List S35) (need j : Int) : Prop := (rd_T35 l j).f2 = false ∧ need ≤ (rd_T35 l j).f1
structure ap (l : List S35) (need i : Int) (out : List Int) : Prop where
 ok : ∀ x ∈ out, 0 ≤ x ∧ x < i ∧ dj l need x ∧ ∀ j : Int, 0 ≤ j → j < i → dj l need j → (rd_T35 l x).f1 ≤ (rd_T35 l j).f1
 all : ∀ x : Int, 0 ≤ x → x < i → dj l need x → (∀ j : Int, 0 ≤ j → j < i → dj l need j → (rd_T35 l x).f1 ≤ (rd_T35 l j).f1) → x ∈ out
 none : out = [] → ∀ j : Int, 0 ≤ j → j < i → ¬ dj l need j
 len : (out.length : Int) ≤ i
 up : out.Pairwise (· < ·)
theorem ap.zero (l : List S35) (need : Int) : ap l need 0 [] :=
 ⟨fun x h => absurd h (by simp), fun x h0 h1 => by omega, fun _ j h0 h1 => by omega, by simp, List.Pairwise.nil⟩
theorem ap.skip {l : List S35} {need i : Int} {out : List Int} (h : ap l need i out) (hn : ¬ dj l need i) : ap l need (i + 1) out := by
 have hj : ∀ j : Int, j < i + 1 → dj l need j → j < i := fun j h1 h2 => by
  by_cases e : j = i
  ·subst e; exact absurd h2 hn
  ·omega
 refine ⟨fun x hx => ?_, fun x h0 h1 h2 h3 => ?_, fun h0 j h1 h2 h3 => ?_, by have := h.len; omega, h.up⟩
 ·obtain ⟨a, b, c, d⟩ := h.ok x hx
  exact ⟨a, by omega, c, fun j h0 h1 h2 => d j h0 (hj j h1 h2) h2⟩
 ·exact h.all x h0 (hj x h1 h2) h2 (fun j h4 h5 h6 => h3 j h4 (by omega) h6)
 ·exact h.none h0 j h1 (hj j h2 h3) h3
theorem ap.first {l : List S35} {need i : Int} (hi : 0 ≤ i) (h : ap l need i []) (ho : dj l need i) : ap l need (i + 1) [i] := by
 have hj : ∀ j : Int, 0 ≤ j → j < i + 1 → dj l need j → j = i := fun j h0 h1 h2 => by
  by_cases e : j = i
  ·exact e
  ·exact absurd h2 (h.none rfl j h0 (by omega))
 refine ⟨fun x hx => ?_, fun x h0 h1 h2 h3 => ?_, fun h0 => by simp at h0, by simp; omega, by simp⟩
 ·have hx := List.mem_singleton.1 hx
  subst hx
  exact ⟨hi, by omega, ho, fun j h0 h1 h2 => by rw [hj j h0 h1 h2]; exact Int.le_refl _⟩
 ·rw [hj x h0 h1 h2]; simp
theorem ap.head {l : List S35} {need i : Int} {a : Int} {out : List Int} (h : ap l need i (a :: out)) : 0 ≤ a ∧ a < i ∧ dj l need a ∧ ∀ x ∈ a :: out, (rd_T35 l x).f1 = (rd_T35 l a).f1 := by
 obtain ⟨h0, h1, h2, h3⟩ := h.ok a (by simp)
 refine ⟨h0, h1, h2, fun x hx => ?_⟩
 obtain ⟨g0, g1, g2, g3⟩ := h.ok x hx
 have := h3 x g0 g1 g2
 have := g3 a h0 h1 h2
 omega
theorem ap.less {l : List S35} {need i : Int} {a : Int} {out : List Int} (h : ap l need i (a :: out)) (ho : dj l need i) (hs : (rd_T35 l i).f1 < (rd_T35 l a).f1) : ap l need (i + 1) [i] := by
 obtain ⟨h0, h1, h2, h3⟩ := h.ok a (by simp)
 refine ⟨fun x hx => ?_, fun x g0 g1 g2 g3 => ?_, fun h0 => by simp at h0, by simp; omega, by simp⟩
 ·have hx := List.mem_singleton.1 hx
  subst hx
  refine ⟨by omega, by omega, ho, fun j g0 g1 g2 => ?_⟩
  by_cases e : j = x
  ·subst e; exact Int.le_refl _
  ·have := h3 j g0 (by omega) g2; omega
 ·by_cases e : x = i
  ·subst e; simp
  ·exfalso
   have := h3 x g0 (by omega) g2
   have := g3 i (by omega) (by omega) ho
   omega
theorem ap.same {l : List S35} {need i : Int} {a : Int} {out : List Int} (h : ap l need i (a :: out)) (ho : dj l need i) (hs : (rd_T35 l i).f1 = (rd_T35 l a).f1) : ap l need (i + 1) ((a :: out) ++ [i]) := by
 obtain ⟨h0, h1, h2, h3⟩ := h.ok a (by simp)
 have hh := h.head.2.2.2
 refine ⟨fun x hx => ?_, fun x g0 g1 g2 g3 => ?_, fun h0 => by simp at h0, by have := h.len; simp at this ⊢; omega, ?_⟩
 ·have key : ∀ j : Int, 0 ≤ j → j < i + 1 → dj l need j → (rd_T35 l a).f1 ≤ (rd_T35 l j).f1 := fun j g0 g1 g2 => by
   by_cases e : j = i
   ·subst e; omega
   ·exact h3 j g0 (by omega) g2
  rcases List.mem_append.1 hx with hx | hx
  ·obtain ⟨k0, k1, k2, _⟩ := h.ok x hx
   exact ⟨k0, by omega, k2, fun j g0 g1 g2 => by rw [hh x hx]; exact key j g0 g1 g2⟩
  ·have hx := List.mem_singleton.1 hx
   subst hx
   exact ⟨by omega, by omega, ho, fun j g0 g1 g2 => by rw [hs]; exact key j g0 g1 g2⟩
 ·by_cases e : x = i
  ·subst e; simp
  ·exact List.mem_append_left _ (h.all x g0 (by omega) g2 (fun j k0 k1 k2 => g3 j k0 (by omega) k2))
 ·refine List.pairwise_append.2 ⟨h.up, by simp, fun x hx y hy => ?_⟩
  have hy := List.mem_singleton.1 hy
  subst hy
  exact (h.ok x hx).2.1
theorem ap.more {l : List S35} {need i : Int} {a : Int} {out : List Int} (h : ap l need i (a :: out)) (hs : (rd_T35 l a).f1 < (rd_T35 l i).f1) : ap l need (i + 1) (a :: out) := by
 obtain ⟨h0, h1, h2, h3⟩ := h.ok a (by simp)
 have hh := h.head.2.2.2
 refine ⟨fun x hx => ?_, fun x g0 g1 g2 g3 => ?_, fun h0 => by simp at h0, by have := h.len; omega, h.up⟩
 ·obtain ⟨k0, k1, k2, k3⟩ := h.ok x hx
  refine ⟨k0, by omega, k2, fun j g0 g1 g2 => ?_⟩
  by_cases e : j = i
  ·subst e; have := hh x hx; omega
  ·exact k3 j g0 (by omega) g2
 ·by_cases e : x = i
  ·subst e
   have := g3 a h0 (by omega) h2
   omega
  ·exact h.all x g0 (by omega) g2 (fun j k0 k1 k2 => g3 j k0 (by omega) k2)
theorem dc (a : Int) (out : List Int) : rd (a :: out) 0 = a := rfl
theorem iw {l : List S35} {need : Int} (hl : Wf l) (hn : 2 ≤ need) (d : Nat) : ∀ (i : Int) (out : List Int), 0 ≤ i → i + d = l.length → ap l need i out →
  ∃ r, Ev (fun k => fit_Fits.l0 k l need out l (l.length : Int) i) r ∧ ap l need l.length r := by
 have hlen := hl.1
 induction d with
 | zero =>
  intro i out h0 hd h
  have e : i = (l.length : Int) := by omega
  subst e
  exact ⟨out, Ev.step (fun k => by rw [fit_Fits.l0]) (ai (by omega) (Ev.now _)), h⟩
 | succ d ih =>
  intro i out h0 hd h
  have hlt : i < (l.length : Int) := by omega
  have hol := h.len
  by_cases ho : dj l need i
  ·have enter : ∀ r, Ev (fun k => fit_Fits.j1 k l need out i l (l.length : Int) i false ((rd_T35 l i).f0) ((rd_T35 l i).f1) ((rd_T35 l i).f2)) r → Ev (fun k => fit_Fits.l0 k l need out l (l.length : Int) i) r := by
    intro r hr
    refine Ev.step (fun k => by rw [fit_Fits.l0]) ?_
    refine ac hlt (ac h0 (ac hlt (ai (by omega) (ai (by rw [ho.1]; decide) ?_))))
    rw [decide_eq_false (by have := ho.2; omega)]
    exact hr
   cases out with
   | nil =>
    obtain ⟨r, hr, hp⟩ := ih (i + 1) [i] (by omega) (by omega) (h.first h0 ho)
    refine ⟨r, enter r ?_, hp⟩
    refine Ev.step (fun k => by rw [fit_Fits.j1]) (ai (by decide) (ai (by decide) ?_))
    refine Ev.step (fun k => by rw [fit_Fits.j2]) (ai (by decide) (ac (by decide) (ac (by decide) ?_)))
    rw [aq (n := i + 1) (by omega)]
    exact hr
   | cons a out =>
    obtain ⟨a0, a1, a2, a3⟩ := h.head
    have go : ∀ r (b : Bool), b = decide ((rd_T35 l i).f1 < (rd_T35 l a).f1) → Ev (fun k => fit_Fits.j2 k l need (a :: out) i l (l.length : Int) i b ((rd_T35 l i).f0) ((rd_T35 l i).f1) ((rd_T35 l i).f2)) r →
      Ev (fun k => fit_Fits.j1 k l need (a :: out) i l (l.length : Int) i false ((rd_T35 l i).f0) ((rd_T35 l i).f1) ((rd_T35 l i).f2)) r := by
     intro r b hb hr
     refine Ev.step (fun k => by rw [fit_Fits.j1]) (ai (by decide) (ac (by simp) (ac (by simp) ?_)))
     rw [dc]
     refine ac a0 (ac (by omega) ?_)
     rw [← hb]
     exact hr
    by_cases c1 : (rd_T35 l i).f1 < (rd_T35 l a).f1
    ·obtain ⟨r, hr, hp⟩ := ih (i + 1) [i] (by omega) (by omega) (h.less ho c1)
     refine ⟨r, enter r (go r true (by rw [decide_eq_true c1]) ?_), hp⟩
     refine Ev.step (fun k => by rw [fit_Fits.j2]) (ac rfl (ac (by decide) ?_))
     rw [aq (n := i + 1) (by omega)]
     exact hr
    ·by_cases c2 : (rd_T35 l i).f1 = (rd_T35 l a).f1
     ·obtain ⟨r, hr, hp⟩ := ih (i + 1) ((a :: out) ++ [i]) (by omega) (by omega) (h.same ho c2)
      refine ⟨r, enter r (go r false (by rw [decide_eq_false c1]) ?_), hp⟩
      refine Ev.step (fun k => by rw [fit_Fits.j2]) (ai (by decide) (ai (by simp; omega) (ac (by simp) ?_)))
      rw [dc, aq (n := i + 1) (by omega)]
      refine ac a0 (ac (by omega) (ac c2 (ac (by omega) hr)))
     ·obtain ⟨r, hr, hp⟩ := ih (i + 1) (a :: out) (by omega) (by omega) (h.more (by omega))
      refine ⟨r, enter r (go r false (by rw [decide_eq_false c1]) ?_), hp⟩
      refine Ev.step (fun k => by rw [fit_Fits.j2]) (ai (by decide) (ai (by simp; omega) (ac (by simp) ?_)))
      rw [dc, aq (n := i + 1) (by omega)]
      exact ac a0 (ac (by omega) (ai c2 hr))
  ·obtain ⟨r, hr, hp⟩ := ih (i + 1) out (by omega) (by omega) (h.skip ho)
   refine ⟨r, Ev.step (fun k => by rw [fit_Fits.l0]) ?_, hp⟩
   have j1 : Ev (fun k => fit_Fits.j1 k l need out i l (l.length : Int) i true ((rd_T35 l i).f0) ((rd_T35 l i).f1) ((rd_T35 l i).f2)) r := by
    refine Ev.step (fun k => by rw [fit_Fits.j1]) (ac rfl ?_)
    rw [aq (n := i + 1) (by omega)]
    exact hr
   refine ac hlt (ac h0 (ac hlt (ai (by omega) ?_)))
   refine ak (fun _ => j1) (fun c => ?_)
   rw [decide_eq_true (show (rd_T35 l i).f1 < need from by
    have : ¬ (need ≤ (rd_T35 l i).f1) := fun hh => ho ⟨by simpa using c, hh⟩
    omega)]
   exact j1
theorem ix {l : List S35} {need : Int} (hl : Wf l) (hn : 2 ≤ need) : ∃ r, Ev (fun k => fit_Fits.f k l need) r ∧ ap l need l.length r :=
 iw hl hn l.length 0 [] (by omega) (by omega) (ap.zero l need)
def cv (at_ : Int) (counts : List Int) : Int := if at_ < 0 ∨ (counts.length : Int) ≤ at_ / 32 then 0 else rd counts (at_ / 32)
theorem dt {a b : Int} {c : Bool} {counts : List Int} (h1 : a ≤ 9223372036854775807) : fit_count.f a b c counts = some (cv a counts) := by
 unfold fit_count.f cv
 by_cases h : a < 0
 ·rw [if_pos h, if_pos (Or.inl h)]
 ·rw [if_neg h, dk (by omega), aq (n := a / 32) (by omega)]
  by_cases h2 : a / 32 ≥ (counts.length : Int)
  ·rw [if_pos h2, if_pos (Or.inr h2)]
  ·rw [if_neg h2, if_pos (by omega), if_pos (by omega), if_neg (by omega)]
def js (l : List S35) (counts : List Int) (x y : Int) : Prop :=
 cv (rd_T35 l x).f0 counts < cv (rd_T35 l y).f0 counts ∨ (cv (rd_T35 l x).f0 counts = cv (rd_T35 l y).f0 counts ∧ (rd_T35 l x).f0 ≤ (rd_T35 l y).f0)
def bp (l : List S35) (counts out : List Int) (c : Int) : Prop := (out = [] ∧ c = -1) ∨ (c ∈ out ∧ ∀ y ∈ out, js l counts c y)
theorem eu (pre suf : List Int) (x : Int) : rd (pre ++ x :: suf) (pre.length : Int) = x := by
 unfold rd
 rw [List.getD_eq_getElem?_getD, Int.toNat_natCast, List.getElem?_append_right (by omega)]
 simp
theorem fy {l : List S35} {counts : List Int} (hl : Wf l) (suf : List Int) : ∀ (pre : List Int) (best : Int), (∀ x ∈ pre ++ suf, 0 ≤ x ∧ x < l.length) → (pre ++ suf).length ≤ 1000 → bp l counts pre best →
  ∃ r, Ev (fun k => fit_Choose.l0 k l counts best (pre ++ suf) ((pre ++ suf).length : Int) (pre.length : Int)) r ∧ bp l counts (pre ++ suf) r := by
 induction suf with
 | nil =>
  intro pre best hr hlen h
  refine ⟨best, Ev.step (fun k => by rw [fit_Choose.l0]) (ai (by simp) (Ev.now _)), by simpa using h⟩
 | cons x suf ih =>
  intro pre best hr hlen h
  have hx := hr x (by simp)
  have e : pre ++ x :: suf = (pre ++ [x]) ++ suf := by simp
  have hlen2 : ((pre ++ [x]).length : Int) = (pre.length : Int) + 1 := by simp
  have hlt : (pre.length : Int) < ((pre ++ x :: suf).length : Int) := by simp; omega
  have next : ∀ b, bp l counts (pre ++ [x]) b → ∃ r, Ev (fun k => fit_Choose.l0 k l counts b (pre ++ x :: suf) ((pre ++ x :: suf).length : Int) ((pre.length : Int) + 1)) r ∧ bp l counts (pre ++ x :: suf) r := by
   intro b hb
   have := ih (pre ++ [x]) b (by rw [← e]; exact hr) (by rw [← e]; exact hlen) hb
   rw [hlen2, ← e] at this
   exact this
  have w1 : wrap64 ((pre.length : Int) + 1) = (pre.length : Int) + 1 := aq (by simp at hlen; omega)
  rcases h with ⟨rfl, rfl⟩ | ⟨hm, hall⟩
  ·obtain ⟨r, h1, h2⟩ := next x (Or.inr ⟨by simp, fun y hy => by simp at hy; subst hy; exact Or.inr ⟨rfl, Int.le_refl _⟩⟩)
   refine ⟨r, Ev.step (fun k => by rw [fit_Choose.l0]) ?_, h2⟩
   rw [eu, w1]
   exact ac hlt (ac (by omega) (ac hlt (ac (by omega) h1)))
  ·have hb := hr best (by simp [hm])
   have fx := hl.2 x
   have fb := hl.2 best
   have cx := dt (b := (rd_T35 l x).f1) (c := (rd_T35 l x).f2) (counts := counts) fx.2.1
   have cb := dt (b := (rd_T35 l best).f1) (c := (rd_T35 l best).f2) (counts := counts) fb.2.1
   by_cases c1 : cv (rd_T35 l x).f0 counts < cv (rd_T35 l best).f0 counts ∨ (cv (rd_T35 l x).f0 counts = cv (rd_T35 l best).f0 counts ∧ (rd_T35 l x).f0 < (rd_T35 l best).f0)
   ·obtain ⟨r, h1, h2⟩ := next x (Or.inr ⟨by simp, fun y hy => by
     rcases List.mem_append.1 hy with hy | hy
     ·have := hall y hy
      unfold js at this ⊢
      omega
     ·simp at hy; subst hy; exact Or.inr ⟨rfl, Int.le_refl _⟩⟩)
    refine ⟨r, Ev.step (fun k => by rw [fit_Choose.l0]) ?_, h2⟩
    rw [eu, w1]
    refine ac hlt (ac (by omega) (ac hlt (ai (by omega) (ac hx.1 (ac hx.2 (ab cx (ac hb.1 (ac hb.2 (ab cb ?_)))))))))
    rcases c1 with c1 | c1
    ·exact ac c1 h1
    ·exact ai (by omega) (ac c1.1 (ac c1.2 h1))
   ·obtain ⟨r, h1, h2⟩ := next best (Or.inr ⟨by simp [hm], fun y hy => by
     rcases List.mem_append.1 hy with hy | hy
     ·exact hall y hy
     ·simp at hy; subst hy; unfold js; omega⟩)
    refine ⟨r, Ev.step (fun k => by rw [fit_Choose.l0]) ?_, h2⟩
    rw [eu, w1]
    refine ac hlt (ac (by omega) (ac hlt (ai (by omega) (ac hx.1 (ac hx.2 (ab cx (ac hb.1 (ac hb.2 (ab cb ?_)))))))))
    refine ai (by omega) ?_
    refine ak (fun c2 => ai (by omega) h1) (fun _ => h1)
theorem fz {l : List S35} {need : Int} {counts : List Int} (hl : Wf l) (hn : 2 ≤ need) : ∃ out r, Ev (fun k => fit_Fits.f k l need) out ∧ ap l need l.length out ∧ Ev (fun k => fit_Choose.f k l need counts) r ∧ bp l counts out r := by
 obtain ⟨out, h1, h2⟩ := ix hl hn
 have hlen := hl.1
 obtain ⟨r, h3, h4⟩ := fy (counts := counts) hl out [] (-1) (fun x hx => by
  have := h2.ok x (by simpa using hx); exact ⟨this.1, this.2.1⟩) (by have := h2.len; simp; omega) (Or.inl ⟨rfl, rfl⟩)
 refine ⟨out, r, h1, h2, ?_, h4⟩
 unfold fit_Choose.f
 exact aa h1 h3
theorem ji {l : List S35} {need : Int} {counts out : List Int} {c : Int} (hf : ap l need l.length out) (hc : bp l counts out c) :
  (c = -1 ∧ out = [] ∧ ∀ j : Int, 0 ≤ j → j < l.length → ¬ dj l need j) ∨
  (0 ≤ c ∧ c < l.length ∧ dj l need c ∧ c ∈ out ∧ (∀ y ∈ out, js l counts c y) ∧ ∀ j : Int, 0 ≤ j → j < l.length → dj l need j → (rd_T35 l c).f1 ≤ (rd_T35 l j).f1) := by
 rcases hc with ⟨h1, h2⟩ | ⟨h1, h2⟩
 ·exact Or.inl ⟨h2, h1, hf.none h1⟩
 ·obtain ⟨a, b, c, d⟩ := hf.ok _ h1
  exact Or.inr ⟨a, b, c, h1, h2, d⟩
def HV (l : List S35) (v : List Int) (words : Int) : Prop := aw l words ∧ di v ∧ (v.length : Int) = words ∧ ∀ b ∈ l, rd v b.f0 = be b
theorem az {l : List S35} {v : List Int} {words : Int} (h : HV l v words) : Ev (fun k => chain_Blocks.f k v) (l, true) :=
 eb h.2.1 (gh (fr := false) (by rw [h.2.2.1]; exact h.1.2) h.2.2.2) (by rw [h.2.2.1]; exact h.1)
theorem jj {l : List S35} {v : List Int} {words i need : Int} (h : HV l v words) (hc : ds l i need) : HV (e7 l i need) (bo v (d8 (rd_T35 l i) need)) words :=
 ⟨io h.1 hc, iq _ _ h.2.1 (iv _ _), by rw [b7]; exact h.2.2.1, fw h.1 hc h.2.2.1 h.2.2.2⟩
theorem jk {l : List S35} {v : List Int} {words i : Int} (h : HV l v words) (hc : jq l i) : HV (ig l i) (v.set (rd_T35 l (ae l i)).f0.toNat (bi (ad (mM l i)) false)) words := by
 obtain ⟨hC, hW, hlen, hH⟩ := h
 obtain ⟨hB, x0, x1, hu⟩ := hc
 have hi : 0 ≤ i ∧ i < l.length := ⟨x0, x1⟩
 have hwd := hC.1
 unfold a8 at hwd
 have hM := ik hC hi hu
 have ft := bh hi
 have hrf := bl hB (i := ae l i) ft.1 (by omega)
 have hrw := bf hC.2 (j := ae l i) ft.1 (by omega)
 have hcm := hM.2
 have hmid : ig l i = mP l i ++ ⟨(rd_T35 l (ae l i)).f0, ad (mM l i), false⟩ :: mQ l i := by
  unfold ig
  rw [List.append_assoc]
  rfl
 rw [hmid] at hcm
 have hs2 := (af hcm ⟨(rd_T35 l (ae l i)).f0, ad (mM l i), false⟩ (by simp))
 dsimp only at hs2
 have hwd2 : bi (ad (mM l i)) false = 2 * ad (mM l i) := by
  unfold bi
  rw [if_pos ⟨hs2.2.1, hs2.2.2.1⟩]
  simp
 rw [hwd2]
 have hup := bj hcm
 rw [List.pairwise_append] at hup
 refine ⟨hM, da hW (by omega) (by omega), by rw [List.length_set]; exact hlen, ?_⟩
 intro b hb
 rw [hmid] at hb
 have old : b ∈ l → b.f0 ≠ (rd_T35 l (ae l i)).f0 → rd (v.set (rd_T35 l (ae l i)).f0.toNat (2 * ad (mM l i))) b.f0 = be b := by
  intro hbl hne
  have hbm := af hC.2 b hbl
  rw [bd _ _ (by omega), if_neg (by omega)]
  exact hH b hbl
 rcases List.mem_append.1 hb with hb | hb
 ·have h1 := hup.2.2 b hb _ List.mem_cons_self
  have h2 : b ∈ l := by rw [bw hi]; exact List.mem_append_left _ (List.mem_append_left _ hb)
  have h3 := af hC.2 b h2
  exact old h2 (by dsimp only at h1; omega)
 ·rcases List.mem_cons.1 hb with hb | hb
  ·rw [hb]
   dsimp only
   rw [bd _ _ (by omega), if_pos rfl]
   unfold be
   simp
  ·have h1 := (List.pairwise_cons.1 hup.2.1).1 b hb
   have h2 : b ∈ l := by rw [bw hi]; exact List.mem_append_right _ hb
   exact old h2 (by dsimp only at h1; omega)
def am (n : Int) : Int := if n < 1 ∨ n > 448 then 0 else (n + 7) / 8 + 1
theorem dd (n : Int) : fit_Need.f n = some (am n) := by
 unfold fit_Need.f am
 by_cases h1 : n < 1
 ·rw [if_pos h1, if_pos (.inl h1)]
 ·by_cases h2 : n > 448
  ·rw [if_neg h1, if_pos h2, if_pos (.inr h2)]
  ·rw [if_neg h1, if_neg h2, if_neg (by omega), aq (n := n + 7) (by omega), dk (by omega), aq (n := (n + 7) / 8) (by omega), aq (by omega)]
theorem gq (n : Int) : am n = 0 ∨ (2 ≤ am n ∧ am n ≤ 57) := by
 unfold am
 split
 ·exact .inl rfl
 ·right; omega
theorem b9 {a : Int} (h : 0 ≤ a ∧ a ≤ 512) : offV a = (a + 1) * 8 := by
 unfold offV
 rw [if_neg (by omega), if_neg (by omega), aq (n := a + 1) (by omega), aq (by omega)]
theorem jl {l : List S35} {words : Int} (h : aw l words) (hl : l.length ≤ 1000) : Wf l := by
 refine ⟨hl, fun j => ?_⟩
 have hw := h.1
 unfold a8 at hw
 have e : rd_T35 l j = rd_T35 l (j.toNat : Int) := by unfold rd_T35; rw [Int.toNat_natCast]
 rw [e]
 by_cases hj : j.toNat < l.length
 ·have := bf h.2 (j := (j.toNat : Int)) (by omega) (by omega)
  omega
 ·unfold rd_T35
  rw [List.getD_eq_getElem?_getD, Int.toNat_natCast, List.getElem?_eq_none (by omega)]
  exact ⟨by decide, by decide, by decide, by decide⟩
theorem f3 {l : List S35} {v : List Int} {words n : Int} {counts : List Int} (hV : HV l v words) (hl : l.length ≤ 1000) :
  ∃ r, Ev (fun k => image_Alloc.f k v n counts) r ∧ ((am n = 0 ∧ r = ([], 0, 1)) ∨ (am n ≠ 0 ∧ (∀ j : Int, 0 ≤ j → j < l.length → ¬ dj l (am n) j) ∧ r = ([], 0, 4)) ∨
   (am n ≠ 0 ∧ ∃ c, ds l c (am n) ∧ r = (d8 (rd_T35 l c) (am n), ((rd_T35 l c).f0 + 1) * 8, 0))) := by
 unfold image_Alloc.f
 by_cases hz : am n = 0
 ·exact ⟨([], 0, 1), ab (dd n) (ac hz (Ev.now _)), .inl ⟨hz, rfl⟩⟩
 ·have hn : 2 ≤ am n := by have := gq n; omega
  obtain ⟨out, c, _, h2, h3, h4⟩ := fz (need := am n) (counts := counts) (jl hV.1 hl) hn
  rcases ji h2 h4 with ⟨hc, _, hno⟩ | ⟨c0, c1, hok, _⟩
  ·exact ⟨_, ab (dd n) (ai hz (aa (az hV) (ac rfl (aa h3 (ac (by omega) (Ev.now _)))))), .inr (.inl ⟨hz, hno, rfl⟩)⟩
  ·have can := (ip hV.1 c0 c1 hn).2 hok
   have hr := bl can.1 c0 c1
   refine ⟨_, ab (dd n) (ai hz (aa (az hV) (ac rfl (aa h3 (ai (by omega) (aa (ep hl can) (ac c0 (ac c1 (ab (off_v _ _ _) (Ev.now _)))))))))), .inr (.inr ⟨hz, c, can, ?_⟩)⟩
   rw [b9 (by dsimp only; omega)]
theorem iy (off : Int) (pre suf : List S35) (x : S35) (hx : x.f2 = true ∧ offV x.f0 = off) : ∀ i : Nat, (∀ b ∈ pre, b.f2 = true → offV b.f0 ≠ off) → findS off (pre ++ x :: suf) i = ((i + pre.length : Nat) : Int) := by
 induction pre with
 | nil =>
  intro i _
  show (if (x.f2 && decide (offV x.f0 = off)) = true then (i : Int) else findS off suf (i + 1)) = _
  rw [if_pos (by simp [hx.1, hx.2])]
  rfl
 | cons y pre ih =>
  intro i h
  show (if (y.f2 && decide (offV y.f0 = off)) = true then (i : Int) else findS off (pre ++ x :: suf) (i + 1)) = _
  rw [if_neg, ih (i + 1) (fun b hb => h b (List.mem_cons_of_mem _ hb)), List.length_cons]
  ·omega
  ·have := h y List.mem_cons_self
   simp only [Bool.and_eq_true, decide_eq_true_eq]
   exact fun hh => this hh.1 hh.2
theorem f5 (off : Int) (l : List S35) : ∀ i : Nat, (∀ b ∈ l, b.f2 = true → offV b.f0 ≠ off) → findS off l i = -1 := by
 induction l with
 | nil => intro i _; rfl
 | cons y l ih =>
  intro i h
  show (if (y.f2 && decide (offV y.f0 = off)) = true then (i : Int) else findS off l (i + 1)) = _
  rw [if_neg, ih (i + 1) (fun b hb => h b (List.mem_cons_of_mem _ hb))]
  have := h y List.mem_cons_self
  simp only [Bool.and_eq_true, decide_eq_true_eq]
  exact fun hh => this hh.1 hh.2
theorem du {l : List S35} {words c off : Int} (h : aw l words) (h0 : 0 ≤ c) (h1 : c < l.length) (hu : (rd_T35 l c).f2 = true) (ho : off = ((rd_T35 l c).f0 + 1) * 8) : findS off l 0 = c := by
 have hl := bz h0 h1
 have hw := h.1
 unfold a8 at hw
 have hr := bf h.2 h0 h1
 have hup := bj h.2
 rw [hl, List.pairwise_append] at hup
 have := iy off (l.take c.toNat) (l.drop (c.toNat + 1)) (rd_T35 l c) ⟨hu, by rw [b9 (by omega), ho]⟩ 0 (fun b hb _ => by
  have h2 := hup.2.2 b hb _ List.mem_cons_self
  have h3 := af h.2 b (List.mem_of_mem_take hb)
  rw [b9 (by omega), ho]
  omega)
 rw [← hl] at this
 rw [this, List.length_take]
 omega
theorem e9 {l : List S35} {v : List Int} {words : Int} (hV : HV l v words) (off : Int) : Ev (fun k => image_find.f k v off) (l, findS off l 0) := by
 unfold image_find.f
 exact aa (az hV) (Ev.now _)
theorem jc {l : List S35} {v : List Int} {words : Int} (hV : HV l v words) : l.length ≠ 0 := by
 intro e
 have hw := hV.1.1
 unfold a8 at hw
 have hl := List.eq_nil_of_length_eq_zero e
 have hc := hV.1.2
 rw [hl] at hc
 have hc : (0 : Int) = words := hc
 omega
theorem f6 {l : List S35} {v : List Int} {words c off : Int} (hV : HV l v words) (hl : l.length ≤ 1000) (h0 : 0 ≤ c) (h1 : c < l.length) (hu : (rd_T35 l c).f2 = true) (ho : off = ((rd_T35 l c).f0 + 1) * 8) :
  Ev (fun k => image_Free.f k v off) ([⟨(rd_T35 l (ae l c)).f0, bi (ad (mM l c)) false⟩], 0) := by
 have hne := jc hV
 have can := gk hV.1 ⟨h0, h1⟩ hu
 have hf := e9 hV off
 rw [du hV.1 h0 h1 hu ho] at hf
 unfold image_Free.f
 exact aa hf (ai (by dsimp only; omega) (aa (fo hl can) (ac rfl (Ev.now _))))
theorem gr {l : List S35} {v : List Int} {words off : Int} (hV : HV l v words) (hl : l.length ≤ 1000) (ho : ∀ b ∈ l, b.f2 = true → offV b.f0 ≠ off) :
  Ev (fun k => image_Free.f k v off) ([], 1) := by
 have hne := jc hV
 have hf := e9 hV off
 rw [f5 off l 0 ho] at hf
 unfold image_Free.f
 exact aa hf (ai (by dsimp only; omega) (aa (gj hl (fun h => by have := h.2.1; omega)) (ai (by decide) (Ev.now _))))
theorem dv : Ev (fun k => darninglaw19_awake.f k) true := Ev.of (fun k => darninglaw19_awake.mono k) (k := 60) (by decide +kernel)
theorem ca (n : Int) : darningref4_Need.f n = some (am n) := by
 unfold darningref4_Need.f am
 by_cases h1 : n < 1
 ·rw [if_pos h1, if_pos (.inl h1)]
 ·by_cases h2 : n > 448
  ·rw [if_neg h1, if_pos h2, if_pos (.inr h2)]
  ·rw [if_neg h1, if_neg h2, if_neg (by omega), aq (n := n + 7) (by omega), dk (by omega), aq (n := (n + 7) / 8) (by omega), aq (by omega)]
   congr 1
   omega
theorem gs {W : Int} (hM : a8 W) : HV [(⟨0, W, false⟩ : S35)] ((List.replicate W.toNat 0).set 0 (2 * W)) W := by
 unfold a8 at hM
 have hlen : (((List.replicate W.toNat (0 : Int)).set 0 (2 * W)).length : Int) = W := by rw [List.length_set, List.length_replicate]; omega
 refine ⟨⟨hM, rfl, by dsimp only; omega, by dsimp only; omega, by dsimp only; omega, fun h => (by cases h), ?_⟩, ⟨by omega, fun j => ?_⟩, hlen, fun b hb => ?_⟩
 ·show 0 + W = W
  omega
 ·rw [bd _ _ (by rw [List.length_replicate]; omega), jf]
  split <;> omega
 ·rw [List.mem_singleton.1 hb]
  dsimp only
  rw [bd _ _ (by rw [List.length_replicate]; omega), if_pos (show (0 : Int).toNat = 0 from rfl)]
  unfold be
  simp
def aj (l : List S35) : List S35 := l.filter (fun b => b.f2)
theorem bm (a b : List S35) : aj (a ++ b) = aj a ++ aj b := by unfold aj; exact List.filter_append ..
theorem cg {A : List S35} (h : ∀ b ∈ A, b.f2 = false) : aj A = [] := by
 unfold aj
 rw [List.filter_eq_nil_iff]
 intro b hb
 rw [h b hb]
 decide
theorem dw {A : List S35} (h : ∀ b ∈ A, b.f2 = true) : aj A = A := by
 unfold aj
 rw [List.filter_eq_self]
 intro b hb
 exact h b hb
theorem iz {l : List S35} {i : Int} (hi : 0 ≤ i ∧ i < l.length) (hu : (rd_T35 l i).f2 = true) : aj (mM l i) = [rd_T35 l i] := by
 have ft := bh hi
 have er : rd_T35 (l.take (ce l i).toNat) i = rd_T35 l i := by
  unfold rd_T35
  rw [List.getD_eq_getElem?_getD, List.getD_eq_getElem?_getD, List.getElem?_take_of_lt (by omega)]
 have e := bz (l := l.take (ce l i).toNat) hi.1 (by rw [List.length_take]; omega)
 rw [er, List.take_take, Nat.min_eq_left (by omega)] at e
 have eM : mM l i = (l.take i.toNat).drop (ae l i).toNat ++ rd_T35 l i :: (l.take (ce l i).toNat).drop (i.toNat + 1) := by
  unfold mM
  conv => lhs; rw [e]
  rw [List.drop_append_of_le_length (by rw [List.length_take]; omega)]
 have hA : ∀ b ∈ (l.take i.toNat).drop (ae l i).toNat, b.f2 = false := by
  intro b hb
  by_cases c : i > 0 ∧ (rd_T35 l (i - 1)).f2 = false
  ·have ef : ae l i = i - 1 := by unfold ae; rw [if_pos c]
   rw [ef] at hb
   cases hd : (l.take i.toNat).drop (i - 1).toNat with
   | nil => rw [hd] at hb; cases hb
   | cons q Q =>
    have hlen := congrArg List.length hd
    rw [List.length_drop, List.length_take, List.length_cons] at hlen
    have hQ : Q = [] := List.eq_nil_of_length_eq_zero (by omega)
    rw [hd, hQ] at hb
    rw [List.mem_singleton.1 hb]
    have e1 := (bx (by omega) hd).1
    have e2 : rd_T35 (l.take i.toNat) (i - 1) = rd_T35 l (i - 1) := by
     unfold rd_T35
     rw [List.getD_eq_getElem?_getD, List.getD_eq_getElem?_getD, List.getElem?_take_of_lt (by omega)]
    rw [← e1, e2]; exact c.2
  ·have ef : ae l i = i := by unfold ae; rw [if_neg c]
   rw [ef, List.drop_of_length_le (by rw [List.length_take]; omega)] at hb
   cases hb
 have hD : ∀ b ∈ (l.take (ce l i).toNat).drop (i.toNat + 1), b.f2 = false := by
  intro b hb
  by_cases c : i + 1 < l.length ∧ (rd_T35 l (i + 1)).f2 = false
  ·have et : ce l i = i + 2 := by unfold ce; rw [if_pos c]
   rw [et, show i.toNat + 1 = (i + 1).toNat from by omega] at hb
   cases hd : (l.take (i + 2).toNat).drop (i + 1).toNat with
   | nil => rw [hd] at hb; cases hb
   | cons q Q =>
    have hlen := congrArg List.length hd
    rw [List.length_drop, List.length_take, List.length_cons] at hlen
    have hQ : Q = [] := List.eq_nil_of_length_eq_zero (by omega)
    rw [hd, hQ] at hb
    rw [List.mem_singleton.1 hb]
    have e1 := (bx (by omega) hd).1
    have e2 : rd_T35 (l.take (i + 2).toNat) (i + 1) = rd_T35 l (i + 1) := by
     unfold rd_T35
     rw [List.getD_eq_getElem?_getD, List.getD_eq_getElem?_getD, List.getElem?_take_of_lt (by omega)]
    rw [← e1, e2]; exact c.2
  ·have et : ce l i = i + 1 := by unfold ce; rw [if_neg c]
   rw [et, List.drop_of_length_le (by rw [List.length_take]; omega)] at hb
   cases hb
 rw [eM, bm, cg hA, List.nil_append, show rd_T35 l i :: (l.take (ce l i).toNat).drop (i.toNat + 1) = [rd_T35 l i] ++ (l.take (ce l i).toNat).drop (i.toNat + 1) from rfl, bm, cg hD, List.append_nil, dw (fun b hb => by rw [List.mem_singleton.1 hb]; exact hu)]
theorem i2 {l : List S35} {words : Int} (h : aw l words) : (aj l).Pairwise (fun b c => b.f0 < c.f0) := by
 unfold aj
 refine List.Pairwise.filter _ ?_
 refine List.Pairwise.imp_of_mem ?_ (bj h.2)
 intro b c hb _ hh
 have := af h.2 b hb
 omega
theorem cc {l : List S35} {words : Int} (h : aw l words) : l.length ≤ 256 := by
 have hw := h.1
 unfold a8 at hw
 have := cz h.2
 omega
theorem de {l : List S35} {x : S35} (h : x ∈ l) : ∃ c : Int, 0 ≤ c ∧ c < l.length ∧ rd_T35 l c = x := by
 obtain ⟨n, hn, e⟩ := List.getElem_of_mem h
 refine ⟨n, by omega, by omega, ?_⟩
 obtain ⟨_, e2⟩ := bn (l := l) (j := (n : Int)) (by omega) (by omega)
 rw [e2, ← e]
 rfl
def ck (v : List Int) (o : Int) : Nat → List Int
 | 0 => []
 | n + 1 => al v o :: ck v (o + 1) n
theorem df (v : List Int) : ∀ (n : Nat) (o : Int), (ck v o n).length = n := by
 intro n
 induction n with
 | zero => intro o; rfl
 | succ n ih => intro o; show (ck v (o + 1) n).length + 1 = n + 1; rw [ih]
theorem dx (v : List Int) : ∀ (n m : Nat) (o : Int), m ≤ n → (ck v o n).take m = ck v o m := by
 intro n
 induction n with
 | zero => intro m o h; rw [show m = 0 by omega]; rfl
 | succ n ih =>
  intro m o h
  cases m with
  | zero => rfl
  | succ m => show al v o :: (ck v (o + 1) n).take m = _; rw [ih m (o + 1) (by omega)]; rfl
theorem gt (v : List Int) : ∀ (m n : Nat) (o : Int), m ≤ n → (ck v o n).drop m = ck v (o + m) (n - m) := by
 intro m
 induction m with
 | zero => intro n o h; simp
 | succ m ih =>
  intro n o h
  cases n with
  | zero => omega
  | succ n =>
   show (ck v (o + 1) n).drop m = _
   rw [ih n (o + 1) (by omega), show o + 1 + (m : Int) = o + ((m + 1 : Nat) : Int) by omega, show n - m = n + 1 - (m + 1) by omega]
theorem ch {v u : List Int} : ∀ (n : Nat) (o : Int), (∀ j : Int, o ≤ j → j < o + n → al v j = al u j) → ck v o n = ck u o n := by
 intro n
 induction n with
 | zero => intro o h; rfl
 | succ n ih =>
  intro o h
  show al v o :: ck v (o + 1) n = al u o :: ck u (o + 1) n
  rw [h o (by omega) (by omega), ih (o + 1) (fun j h1 h2 => h j (by omega) (by omega))]
theorem fa (v : List Int) : ∀ (n m : Nat) (o : Int), ck v o (n + m) = ck v o n ++ ck v (o + n) m := by
 intro n
 induction n with
 | zero => intro m o; rw [Nat.zero_add, show o + ((0 : Nat) : Int) = o by omega]; rfl
 | succ n ih =>
  intro m o
  rw [show n + 1 + m = (n + m) + 1 by omega]
  show al v o :: ck v (o + 1) (n + m) = al v o :: (ck v (o + 1) n ++ _)
  rw [ih, show o + 1 + (n : Int) = o + ((n + 1 : Nat) : Int) by omega]
theorem gu {v B : List Int} {o : Int} : ∀ (n : Nat) (k : Nat), k + n = B.length → (∀ j : Int, 0 ≤ j → j < B.length → al v (o + j) = rd B j) → ck v (o + k) n = B.drop k := by
 intro n
 induction n with
 | zero => intro k hk h; rw [List.drop_of_length_le (by omega)]; rfl
 | succ n ih =>
  intro k hk h
  show al v (o + k) :: ck v (o + k + 1) n = _
  rw [show o + (k : Int) + 1 = o + ((k + 1 : Nat) : Int) by omega, ih (k + 1) (by omega) h, h k (by omega) (by omega), List.drop_eq_getElem_cons (show k < B.length by omega)]
  congr 1
  unfold rd
  rw [List.getD_eq_getElem?_getD, Int.toNat_natCast, List.getElem?_eq_getElem (by omega)]
  rfl
theorem i3 {v : List Int} : ∀ (n : Nat) (o : Int), (∀ j : Int, o ≤ j → j < o + n → al v j = 0) → ck v o n = List.replicate n 0 := by
 intro n
 induction n with
 | zero => intro o h; rfl
 | succ n ih =>
  intro o h
  show al v o :: ck v (o + 1) n = _
  rw [h o (by omega) (by omega), ih (o + 1) (fun j h1 h2 => h j (by omega) (by omega))]
  rfl
theorem ax (xs : List Int) : (strOfNums xs).size = xs.length := by
 show (xs.map fun n => UInt8.ofNat n.toNat).toArray.size = _
 simp
theorem dg (xs : List Int) (a b : Nat) : (strOfNums xs).extract a b = strOfNums ((xs.drop a).take (b - a)) := by
 unfold strOfNums
 rw [ByteArray.extract_mk, List.map_take, List.map_drop]
theorem fc (xs ys : List Int) : strOfNums xs ++ strOfNums ys = strOfNums (xs ++ ys) := by
 apply ByteArray.ext
 rw [ByteArray.data_append]
 unfold strOfNums
 simp
theorem i4 {w : List Int} {off n : Int} (hw : w.length ≤ 2000) (hn : 0 ≤ n ∧ n ≤ 448) (ho : 0 ≤ off ∧ off + n ≤ w.length * 8) (d : Nat) : ∀ (acc : List Int) (i : Int), 0 ≤ i → i + d = off + n → acc.length + d ≤ 1000 →
  Ev (fun k => span_Read.l0 k w off n acc i) (acc ++ ck w i d, true) := by
 induction d with
 | zero =>
  intro acc i h0 h1 h2
  have e : ¬ i < wrap64 (off + n) := by rw [aq (by omega)]; omega
  refine Ev.step (fun k => by rw [span_Read.l0]) ?_
  exact ai e (c8 (by show (acc, true) = (acc ++ [], true); rw [List.append_nil]))
 | succ d ih =>
  intro acc i h0 h1 h2
  have e : i < wrap64 (off + n) := by rw [aq (by omega)]; omega
  have h3 := ih (acc ++ [al w i]) (i + 1) (by omega) (by omega) (by simp; omega)
  rw [List.append_assoc] at h3
  refine Ev.step (fun k => by rw [span_Read.l0]) ?_
  rw [dk h0, e5 h0, aq (n := i / 8) (by omega), aq (n := i % 8 * 8) (by omega), aq (n := i + 1) (by omega)]
  exact ac e (ac (by omega) (ac (by omega) (ac (by omega) (ac (by omega) h3))))
theorem fd {w : List Int} {o n : Int} (hw : w.length ≤ 2000) (h : 0 ≤ n ∧ n ≤ 448 ∧ 0 ≤ o ∧ o + n ≤ w.length * 8) : span_within.f w o n = some true := by
 unfold span_within.f
 rw [if_pos h.2.2.1, if_pos h.1, if_pos h.2.1, aq (n := (w.length : Int) * 8) (by omega), aq (by omega), decide_eq_true (by omega)]
theorem cq {o n : Int} {x : S35} (hx : 0 ≤ x.f0 ∧ 0 ≤ x.f1 ∧ x.f0 + x.f1 ≤ 512) (hn : 0 ≤ n ∧ n ≤ 448) : holdsB o n x = (x.f2 && (decide ((x.f0 + 1) * 8 ≤ o) && decide (o ≤ (x.f0 + x.f1) * 8 - n))) := by
 unfold holdsB
 rw [b9 (by omega), aq (n := x.f0 + x.f1) (by omega), aq (n := (x.f0 + x.f1) * 8) (by omega), aq (n := (x.f0 + x.f1) * 8 - n) (by omega)]
theorem ag {l : List S35} {v : List Int} {words : Int} (hV : HV l v words) {b : S35} (hb : b ∈ l) : 0 ≤ b.f0 ∧ 2 ≤ b.f1 ∧ b.f0 + b.f1 ≤ words ∧ words ≤ 512 := by
 have h1 := af hV.1.2 b hb
 have h2 := hV.1.1
 unfold a8 at h2
 omega
theorem dy {l : List S35} {v : List Int} {words o n : Int} (hV : HV l v words) : ∃ r, Ev (fun k => image_Holds.f k v o n) r ∧ (r = true ↔ 0 ≤ n ∧ n ≤ 448 ∧ ∃ b ∈ l, b.f2 = true ∧ (b.f0 + 1) * 8 ≤ o ∧ o ≤ (b.f0 + b.f1) * 8 - n) := by
 unfold image_Holds.f
 by_cases h0 : n < 0
 ·exact ⟨false, ac h0 (Ev.now _), ⟨fun h => (by cases h), fun h => (by omega)⟩⟩
 ·by_cases h1 : n > 448
  ·exact ⟨false, ai h0 (ac h1 (Ev.now _)), ⟨fun h => (by cases h), fun h => (by omega)⟩⟩
  ·refine ⟨l.any (holdsB o n), ai h0 (ai h1 (aa (az hV) (Ev.now _))), ?_⟩
   rw [List.any_eq_true]
   constructor
   ·rintro ⟨x, hx, hh⟩
    have hg := ag hV hx
    rw [cq (by omega) (by omega)] at hh
    simp only [Bool.and_eq_true, decide_eq_true_eq] at hh
    exact ⟨by omega, by omega, x, hx, hh.1, hh.2.1, hh.2.2⟩
   ·rintro ⟨_, _, x, hx, h2, h3, h4⟩
    have hg := ag hV hx
    refine ⟨x, hx, ?_⟩
    rw [cq (by omega) (by omega)]
    simp only [Bool.and_eq_true, decide_eq_true_eq]
    exact ⟨h2, h3, h4⟩
theorem fe {l : List S35} {v : List Int} {words o n : Int} {r : Bool} (hV : HV l v words) (h : Ev (fun k => image_Holds.f k v o n) r) : Ev (fun k => image_holds.f k v o n) (if r = true then 0 else 1) := by
 unfold image_holds.f
 refine aa (az hV) (ac rfl (aa h ?_))
 cases r
 ·exact ai (by decide) (Ev.now _)
 ·exact ac rfl (Ev.now _)
theorem i5 {l : List S35} {v : List Int} {words o n : Int} (hV : HV l v words) (hn : 0 ≤ n ∧ n ≤ 448) (hb : ∃ b ∈ l, b.f2 = true ∧ (b.f0 + 1) * 8 ≤ o ∧ o ≤ (b.f0 + b.f1) * 8 - n) : Ev (fun k => image_Read.f k v o n) (ck v o n.toNat, 0) := by
 obtain ⟨r, h1, h2⟩ := dy (o := o) (n := n) hV
 have e : r = true := h2.2 ⟨hn.1, hn.2, hb⟩
 subst e
 obtain ⟨b, hbl, hbu, h3, h4⟩ := hb
 have hg := ag hV hbl
 have hlen := hV.2.2.1
 have h5 : 0 ≤ o ∧ o + n ≤ (v.length : Int) * 8 := by omega
 have h6 := i4 (w := v) (off := o) (n := n) hV.2.1.1 hn h5 n.toNat [] o h5.1 (by omega) (by simp; omega)
 have h7 : Ev (fun k => span_Read.f k v o n) (ck v o n.toNat, true) := by
  unfold span_Read.f
  exact ab (fd hV.2.1.1 ⟨hn.1, hn.2, h5.1, h5.2⟩) (ac rfl h6)
 unfold image_Read.f
 exact aa (fe hV h1) (ac rfl (aa h7 (Ev.now _)))
def bg (v : List Int) (b : S35) : List Int := ck v ((b.f0 + 1) * 8) ((b.f1 - 1) * 8).toNat
def br (l : List S35) (v : List Int) (h : List S122) : Prop :=
 (∀ b ∈ l, b.f2 = true → lookS h ((b.f0 + 1) * 8) = some (strOfNums (bg v b))) ∧ (∀ a s, lookS h a = some s → ∃ b ∈ l, b.f2 = true ∧ a = (b.f0 + 1) * 8)
theorem ci {l : List S35} {words : Int} (hC : aw l words) {x y : S35} (hx : x ∈ l) (hy : y ∈ l) : x = y ∨ x.f0 + x.f1 ≤ y.f0 ∨ y.f0 + y.f1 ≤ x.f0 := by
 obtain ⟨i, i0, i1, ei⟩ := de hx
 obtain ⟨j, j0, j1, ej⟩ := de hy
 by_cases e : i = j
 ·left; rw [← ei, ← ej, e]
 ·right
  by_cases h : i < j
  ·left; rw [← ei, ← ej]; exact dm hC.2 i0 h j1
  ·right; rw [← ei, ← ej]; exact dm hC.2 j0 (by omega) i1
theorem cd {h : List S122} {a k : Int} {s : ByteArray} : lookS ((⟨a, s, true⟩ : S122) :: h) k = if a = k then some s else lookS h k := by
 show (if a = k then (if true = true then some s else none) else lookS h k) = _
 rw [if_pos rfl]
theorem bq {h : List S122} {a k : Int} {s : ByteArray} : lookS ((⟨a, s, false⟩ : S122) :: h) k = if a = k then none else lookS h k := by
 show (if a = k then (if false = true then some s else none) else lookS h k) = _
 rw [if_neg Bool.false_ne_true]
theorem cr {v u : List Int} {b : S35} (hb : 0 ≤ b.f0 ∧ 2 ≤ b.f1) (h : ∀ q : Int, b.f0 < q → q < b.f0 + b.f1 → rd v q = rd u q) : bg v b = bg u b := by
 unfold bg
 refine ch _ _ (fun j h1 h2 => ?_)
 unfold al
 rw [h (j / 8) (by omega) (by omega)]
theorem i6 {l : List S35} {v : List Int} {words : Int} {b : S35} (hV : HV l v words) (hb : b ∈ l) (hu : b.f2 = true) : Ev (fun k => darninglaw19_mone.f k v ((b.f0 + 1) * 8) (strOfNums (bg v b))) true := by
 have hg := ag hV hb
 have hsz : (strOfNums (bg v b)).size = ((b.f1 - 1) * 8).toNat := by rw [ax]; exact df _ _ _
 obtain ⟨n, hn⟩ : ∃ n, n = mn ((strOfNums (bg v b)).size : Int) 448 := ⟨_, rfl⟩
 have hn2 : 0 ≤ n ∧ n ≤ 448 ∧ n ≤ (b.f1 - 1) * 8 := by
  rw [hn, hsz]
  unfold mn
  split <;> omega
 have hr := i5 (o := (b.f0 + 1) * 8) (n := n) hV ⟨hn2.1, hn2.2.1⟩ ⟨b, hb, hu, by omega, by omega⟩
 unfold darninglaw19_mone.f
 rw [← hn]
 refine aa hr (ac rfl (ac hn2.1 (ac (by rw [hsz]; omega) (ac ?_ (Ev.now _)))))
 rw [dg, List.drop_zero, Nat.sub_zero]
 unfold bg
 rw [dx _ _ _ _ (by omega)]
theorem i7 {l : List S35} {v : List Int} {words : Int} {h : List S122} (hV : HV l v words) (hH : br l v h) : Ev (fun k => darninglaw19_mall.f k v h) true := by
 unfold darninglaw19_mall.f
 have go : ∀ r : List S122, Ev (fun k => mallGo k v h r) true := by
  intro r
  induction r with
  | nil => exact Ev.now _
  | cons x r ih =>
   cases hx : lookS h x.f0 with
   | none =>
    have e : (fun k => mallGo k v h (x :: r)) = (fun k => mallGo k v h r) := by funext k; rw [mallGo]; rw [hx]
    rw [e]; exact ih
   | some s =>
    have e : (fun k => mallGo k v h (x :: r)) = (fun k => (darninglaw19_mone.f k v x.f0 s).bind fun b => if b = true then mallGo k v h r else some false) := by funext k; rw [mallGo]; rw [hx]
    rw [e]
    obtain ⟨b, hb, hu, ha⟩ := hH.2 _ _ hx
    have h1 := hH.1 b hb hu
    rw [← ha, hx] at h1
    have h2 := Option.some.inj h1
    rw [ha, h2]
    exact aa (i6 hV hb hu) (ac rfl ih)
 exact go h
def cs (V : List Int) (j c : Int) : List Int := V.set (j / 8).toNat (cu (rd V (j / 8)) c (j % 8 * 8))
theorem dz {V : List Int} {j c q : Int} (hV : di V) (hj : 0 ≤ j ∧ j < V.length * 8) (hq : 0 ≤ q) : rd (cs V j c) q = if q = j / 8 then cu (rd V (j / 8)) c (j % 8 * 8) else rd V q := by
 unfold cs
 rw [bd _ _ (by omega)]
 by_cases h : q = j / 8
 ·rw [if_pos h, if_pos (by omega)]
 ·rw [if_neg h, if_neg (by omega)]
theorem ev {V : List Int} {j c i : Int} (hV : di V) (hj : 0 ≤ j ∧ j < V.length * 8) (hc : 0 ≤ c ∧ c ≤ 255) (hi : 0 ≤ i) : al (cs V j c) i = if i = j then c else al V i := by
 unfold al
 rw [dz hV hj (by omega)]
 by_cases h : i / 8 = j / 8
 ·rw [if_pos h, (cy (hV.2 _) hc (i := j % 8) (j := i % 8) (by omega) (by omega)).2]
  by_cases e : i = j
  ·rw [if_pos e, if_pos (by omega)]
  ·rw [if_neg e, if_neg (by omega), h]
 ·rw [if_neg h, if_neg (by omega)]
theorem f7 {V : List Int} {j c : Int} (hV : di V) (hc : 0 ≤ c ∧ c ≤ 255) : di (cs V j c) := by
 have h := (cy (hV.2 (j / 8)) hc (i := j % 8) (j := 0) (by omega) (by omega)).1
 exact da hV h.1 h.2
def ao (V B : List Int) (o : Int) : Nat → List Int
 | 0 => V
 | n + 1 => cs (ao V B o n) (o + n) (rd B n)
theorem bs (V B : List Int) (o : Int) : ∀ n, (ao V B o n).length = V.length := by
 intro n
 induction n with
 | zero => rfl
 | succ n ih => show (List.set _ _ _).length = _; rw [List.length_set, ih]
def gv (B : List Int) : Prop := ∀ j : Int, 0 ≤ rd B j ∧ rd B j ≤ 255
theorem bt {V B : List Int} {o : Int} (hV : di V) (hB : gv B) : ∀ n, di (ao V B o n) := by
 intro n
 induction n with
 | zero => exact hV
 | succ n ih => exact f7 ih (hB n)
theorem d5 {V B : List Int} {o : Int} (hV : di V) (hB : gv B) (ho : 0 ≤ o) : ∀ n : Nat, o + n ≤ V.length * 8 → ∀ i : Int, 0 ≤ i → al (ao V B o n) i = if o ≤ i ∧ i < o + n then rd B (i - o) else al V i := by
 intro n
 induction n with
 | zero => intro h i hi; rw [if_neg (by omega)]; rfl
 | succ n ih =>
  intro h i hi
  show al (cs (ao V B o n) (o + n) (rd B n)) i = _
  rw [ev (bt hV hB n) (by rw [bs]; omega) (hB n) hi, ih (by omega) i hi]
  by_cases e : i = o + n
  ·rw [if_pos e, if_pos (by omega), show i - o = n by omega]
  ·rw [if_neg e]
   by_cases e2 : o ≤ i ∧ i < o + n
   ·rw [if_pos e2, if_pos (by omega)]
   ·rw [if_neg e2, if_neg (by omega)]
theorem c7 {V B : List Int} {o : Int} (hV : di V) (hB : gv B) (ho : 0 ≤ o) : ∀ n : Nat, o + n ≤ V.length * 8 → ∀ q : Int, 0 ≤ q → (q < o / 8 ∨ (o + n + 7) / 8 ≤ q) → rd (ao V B o n) q = rd V q := by
 intro n
 induction n with
 | zero => intro h q hq hh; rfl
 | succ n ih =>
  intro h q hq hh
  show rd (cs (ao V B o n) (o + n) (rd B n)) q = _
  rw [dz (bt hV hB n) (by rw [bs]; omega) hq, if_neg (by omega), ih (by omega) q hq (by omega)]
def f8 (y : List S30) (c s : Int) : List S30 :=
 y.set (((y.length : Int) - 1) : Int).toNat (⟨(rd_T30 y ((y.length : Int) - 1)).f0, Go.bits .or .u64 (Go.bits .andNot .u64 ((rd_T30 y ((y.length : Int) - 1)).f1) (shl .u64 255 s)) (shl .u64 (IntKind.u64.wrap c) s)⟩ : S30)
theorem ff (pre : List S30) (x : S30) (c s : Int) : f8 (pre ++ [x]) c s = pre ++ [(⟨x.f0, cu x.f1 c s⟩ : S30)] := by
 have e : (((pre ++ [x]).length : Int) - 1) = (pre.length : Int) := by simp
 have e2 : rd_T30 (pre ++ [x]) (pre.length : Int) = x := db pre [] x
 unfold f8
 rw [e, e2, Int.toNat_natCast, List.set_append_right _ _ (Nat.le_refl _), Nat.sub_self]
 rfl
theorem cn (v : List Int) (pre : List S30) (q x : Int) (hq : 0 ≤ q ∧ q < v.length) : bo v (pre ++ [(⟨q, x⟩ : S30)]) = (bo v pre).set q.toNat x := by
 rw [e8]
 show (if 0 ≤ q ∧ q < ((bo v pre).length : Int) then (bo v pre).set q.toNat x else bo v pre) = _
 rw [if_pos (by rw [b7]; omega)]
def gw (v B : List Int) (o : Int) (acc : List S30) (i : Nat) : Prop :=
 bo v acc = ao v B o i ∧ acc.length ≤ i ∧ ((i = 0 ∧ acc = []) ∨ (0 < i ∧ ∃ pre x, acc = pre ++ [(⟨(o + i - 1) / 8, x⟩ : S30)]))
theorem gx {v B : List Int} {o : Int} {acc : List S30} {i : Nat} (hV : di v) (hB : gv B) (ho : 0 ≤ o) (hl : o + i < v.length * 8) (h : gw v B o acc i) :
  ((acc = [] ∨ ∃ pre x, acc = pre ++ [(⟨(o + i - 1) / 8, x⟩ : S30)] ∧ (o + i - 1) / 8 ≠ (o + i) / 8) → gw v B o (f8 (acc ++ [(⟨(o + i) / 8, rd v ((o + i) / 8)⟩ : S30)]) (rd B i) ((o + i) % 8 * 8)) (i + 1)) ∧
  ((∃ pre x, acc = pre ++ [(⟨(o + i - 1) / 8, x⟩ : S30)] ∧ (o + i - 1) / 8 = (o + i) / 8) → gw v B o (f8 acc (rd B i) ((o + i) % 8 * 8)) (i + 1)) := by
 obtain ⟨h1, h2, h3⟩ := h
 have e1 : o + ((i + 1 : Nat) : Int) - 1 = o + i := by omega
 have hput : ao v B o (i + 1) = (ao v B o i).set ((o + i) / 8).toNat (cu (rd (ao v B o i) ((o + i) / 8)) (rd B i) ((o + i) % 8 * 8)) := rfl
 constructor
 ·intro hc
  have hr : rd (ao v B o i) ((o + i) / 8) = rd v ((o + i) / 8) := by
   rcases hc with hc | ⟨pre, x, _, hc⟩
   ·rcases h3 with ⟨h3, _⟩ | ⟨_, pre, x, h3⟩
    ·subst h3; rfl
    ·rw [hc] at h3; simp at h3
   ·exact c7 hV hB ho i (by omega) _ (by omega) (.inr (by omega))
  rw [ff]
  refine ⟨(cn v acc ((o + i) / 8) _ ⟨by omega, by omega⟩).trans ?_, by simp; omega, .inr ⟨by omega, acc, _, by rw [e1]⟩⟩
  rw [h1, hput, hr]
 ·rintro ⟨pre, x, hc, hd⟩
  have hl2 : (bo v pre).length = v.length := b7 pre v
  have hx : rd (ao v B o i) ((o + i) / 8) = x := by
   rw [← h1, hc, cn _ _ _ _ (by omega), bd _ _ (by rw [hl2]; omega), if_pos (by omega)]
  rw [hc, ff]
  refine ⟨?_, by rw [hc] at h2; simp at h2 ⊢; omega, .inr ⟨by omega, pre, cu x (rd B i) ((o + i) % 8 * 8), by rw [e1, hd]⟩⟩
  dsimp only
  rw [hd, cn _ _ _ _ (by omega), hput, hx, ← h1, hc, hd, cn _ _ _ _ (by omega), List.set_set]
theorem jr {w B : List Int} {off : Int} (hw : di w) (hB : gv B) (hn : B.length ≤ 448) (ho : 0 ≤ off ∧ off + B.length ≤ w.length * 8) (d : Nat) : ∀ (acc : List S30) (i : Nat), i + d = B.length → gw w B off acc i →
  ∃ r, Ev (fun k => span_Edits.l0 k w off acc B (B.length : Int) (i : Int)) (r, true) ∧ gw w B off r B.length := by
 have hwl := hw.1
 induction d with
 | zero =>
  intro acc i h1 h2
  have e : i = B.length := by omega
  subst e
  refine ⟨acc, Ev.step (fun k => by rw [span_Edits.l0]) ?_, h2⟩
  exact ai (by omega) (Ev.now _)
 | succ d ih =>
  intro acc i h1 h2
  have ei : wrap64 (off + (i : Int)) = off + i := aq (by omega)
  have ed : wrap64 (Int.tdiv (off + (i : Int)) 8) = (off + i) / 8 := by rw [dk (by omega), aq (by omega)]
  have es : wrap64 (Int.tmod (off + (i : Int)) 8 * 8) = (off + i) % 8 * 8 := by rw [e5 (by omega), aq (by omega)]
  obtain ⟨s1, s2⟩ := gx hw hB ho.1 (by omega) h2
  have hal := h2.2.1
  have next : ∀ acc2 : List S30, gw w B off acc2 (i + 1) → ∃ r, Ev (fun k => span_Edits.j2 k w off acc2 B (B.length : Int) (i : Int)) (r, true) ∧ gw w B off r B.length := by
   intro acc2 h3
   obtain ⟨r, h4, h5⟩ := ih acc2 (i + 1) (by omega) h3
   refine ⟨r, Ev.step (fun k => by rw [span_Edits.j2]) ?_, h5⟩
   rw [aq (n := (i : Int) + 1) (by omega)]
   exact h4
  have Jt : gw w B off (f8 (acc ++ [(⟨(off + i) / 8, rd w ((off + i) / 8)⟩ : S30)]) (rd B i) ((off + i) % 8 * 8)) (i + 1) → ∃ r, Ev (fun k => span_Edits.j1 k w off acc (rd B i) (off + i) B (B.length : Int) (i : Int) true) (r, true) ∧ gw w B off r B.length := by
   intro h3
   obtain ⟨r, h4, h5⟩ := next _ h3
   have hy : (acc ++ [(⟨(off + i) / 8, rd w ((off + i) / 8)⟩ : S30)]).length = acc.length + 1 := by simp
   refine ⟨r, Ev.step (fun k => by rw [span_Edits.j1]) ?_, h5⟩
   rw [ed, es]
   refine ac rfl (ac (by omega) (ac (by omega) (ac (by omega) (ab rfl ?_))))
   rw [aq (n := ((acc ++ [(⟨(off + i) / 8, rd w ((off + i) / 8)⟩ : S30)]).length : Int) - 1) (by omega)]
   exact ac (by omega) (ac (by omega) (ac (by omega) h4))
  have Jf : acc.length ≠ 0 → gw w B off (f8 acc (rd B i) ((off + i) % 8 * 8)) (i + 1) → ∃ r, Ev (fun k => span_Edits.j1 k w off acc (rd B i) (off + i) B (B.length : Int) (i : Int) false) (r, true) ∧ gw w B off r B.length := by
   intro hz h3
   obtain ⟨r, h4, h5⟩ := next _ h3
   refine ⟨r, Ev.step (fun k => by rw [span_Edits.j1]) ?_, h5⟩
   rw [es, aq (n := (acc.length : Int) - 1) (by omega)]
   exact ai (by decide) (ac (by omega) (ac (by omega) (ac (by omega) h4)))
  rcases h2.2.2 with ⟨h3, h4⟩ | ⟨h3, pre, x, h4⟩
  ·obtain ⟨r, h5, h6⟩ := Jt (s1 (.inl h4))
   refine ⟨r, Ev.step (fun k => by rw [span_Edits.l0]) ?_, h6⟩
   rw [ei]
   exact ac (by omega) (ac (by omega) (ac (by omega) (ac (by rw [h4]; rfl) h5)))
  ·have hz : acc.length ≠ 0 := by rw [h4]; simp
   have hlast : (rd_T30 acc ((acc.length : Int) - 1)).f0 = (off + i - 1) / 8 := by
    rw [h4, show (((pre ++ [(⟨(off + i - 1) / 8, x⟩ : S30)]).length : Int) - 1) = (pre.length : Int) by simp, db pre [] _]
   by_cases hq : (off + i - 1) / 8 = (off + i) / 8
   ·obtain ⟨r, h5, h6⟩ := Jf hz (s2 ⟨pre, x, h4, hq⟩)
    refine ⟨r, Ev.step (fun k => by rw [span_Edits.l0]) ?_, h6⟩
    rw [ei, ed, aq (n := (acc.length : Int) - 1) (by omega), hlast, bne_eq_false_iff_eq.mpr hq]
    exact ac (by omega) (ac (by omega) (ac (by omega) (ai (by omega) (ac (by omega) (ac (by omega) h5)))))
   ·obtain ⟨r, h5, h6⟩ := Jt (s1 (.inr ⟨pre, x, h4, hq⟩))
    refine ⟨r, Ev.step (fun k => by rw [span_Edits.l0]) ?_, h6⟩
    rw [ei, ed, aq (n := (acc.length : Int) - 1) (by omega), hlast, bne_iff_ne.mpr hq]
    exact ac (by omega) (ac (by omega) (ac (by omega) (ai (by omega) (ac (by omega) (ac (by omega) h5)))))
theorem gy {l : List S35} {v B : List Int} {words o : Int} (hV : HV l v words) (hB : gv B) :
  ∃ r, Ev (fun k => image_Holds.f k v o (B.length : Int)) r ∧ (r = true ↔ 0 ≤ (B.length : Int) ∧ (B.length : Int) ≤ 448 ∧ ∃ b ∈ l, b.f2 = true ∧ (b.f0 + 1) * 8 ≤ o ∧ o ≤ (b.f0 + b.f1) * 8 - B.length) ∧
   ((r = false ∧ Ev (fun k => image_Write.f k v o B) ([], 1)) ∨ (r = true ∧ ∃ es, Ev (fun k => image_Write.f k v o B) (es, 0) ∧ es.length ≤ 448 ∧ bo v es = ao v B o B.length)) := by
 obtain ⟨r, h1, h2⟩ := dy (o := o) (n := (B.length : Int)) hV
 refine ⟨r, h1, h2, ?_⟩
 have h4 := fe hV h1
 unfold image_Write.f
 cases r with
 | false => exact .inl ⟨rfl, aa h4 (ai (by decide) (Ev.now _))⟩
 | true =>
  right
  obtain ⟨_, h5, b, hb, hu, h6, h7⟩ := h2.1 rfl
  have hg := ag hV hb
  have hlen := hV.2.2.1
  obtain ⟨es, e1, e2⟩ := jr hV.2.1 hB (by omega) (off := o) (by omega) B.length [] 0 (by omega) ⟨rfl, by simp, .inl ⟨rfl, rfl⟩⟩
  have h8 : Ev (fun k => span_Edits.f k v o B) (es, true) := by
   unfold span_Edits.f
   exact ab (fd hV.2.1.1 ⟨by omega, h5, by omega, by omega⟩) (ac rfl e1)
  exact ⟨rfl, es, aa h4 (ac rfl (aa h8 (Ev.now _))), by have := e2.2.1; omega, e2.1⟩
theorem ew {l : List S35} {c need : Int} (h0 : 0 ≤ c) (h1 : c < l.length) {x : S35} : x ∈ e7 l c need ↔ x ∈ l.take c.toNat ∨ x ∈ gm (rd_T35 l c) need ∨ x ∈ l.drop (c.toNat + 1) := by
 unfold e7
 rw [List.mem_append, List.mem_append, or_assoc]
theorem jm {b x : S35} {need : Int} (h : x ∈ gm b need) (hu : x.f2 = true) : x = ⟨b.f0, tk b.f1 need, true⟩ := by
 unfold gm at h
 rcases List.mem_cons.1 h with h | h
 ·exact h
 ·split at h
  ·rw [List.mem_singleton.1 h] at hu; cases hu
  ·cases h
theorem jt {l : List S35} {c : Int} (h0 : 0 ≤ c) (h1 : c < l.length) {x : S35} : x ∈ l ↔ x ∈ l.take c.toNat ∨ x = rd_T35 l c ∨ x ∈ l.drop (c.toNat + 1) := by
 conv => lhs; rw [bz h0 h1]
 rw [List.mem_append, List.mem_cons]
theorem f9 {v : List Int} {j : Int} (h : rd v (j / 8) = 0) : al v j = 0 := by
 unfold al shr
 rw [h, Int.zero_ediv]
 rfl
theorem ez {l : List S35} {v : List Int} {words c need : Int} {h : List S122} (hV : HV l v words) (hH : br l v h) (can : ds l c need) :
  br (e7 l c need) (bo v (d8 (rd_T35 l c) need)) ((⟨((rd_T35 l c).f0 + 1) * 8, strOfNums (List.replicate ((tk (rd_T35 l c).f1 need - 1) * 8).toNat 0), true⟩ : S122) :: h) := by
 obtain ⟨k1, h0, h1, hf, k5⟩ := can
 have hbl : rd_T35 l c ∈ l := bu h0 h1
 have hg := ag hV hbl
 have hlen := hV.2.2.1
 have ht := fu k5 hg.2.1
 generalize hb : rd_T35 l c = b at *
 have hr : ∀ j : Int, 0 ≤ j → (j < b.f0 ∨ b.f0 + b.f1 ≤ j) → rd (bo v (d8 b need)) j = rd v j := fun j j0 hj => by
  rw [eq hg.1 (by omega) ht.1 ht.2.1 j0, if_neg (by omega), if_neg (by omega), if_neg (by omega)]
 have other : ∀ x ∈ l, x.f2 = true → x.f0 + x.f1 ≤ b.f0 ∨ b.f0 + b.f1 ≤ x.f0 := fun x hx hu => by
  rcases ci hV.1 hx hbl with e | e
  ·rw [e, hf] at hu; cases hu
  ·exact e
 have same : ∀ x ∈ l, x.f2 = true → bg (bo v (d8 b need)) x = bg v x := fun x hx hu => by
  have hx2 := ag hV hx
  have := other x hx hu
  exact cr ⟨hx2.1, hx2.2.1⟩ (fun q q1 q2 => hr q (by omega) (by omega))
 refine ⟨fun x hx hu => ?_, fun a s hs => ?_⟩
 ·rw [cd]
  have old : x ∈ l → (if (b.f0 + 1) * 8 = (x.f0 + 1) * 8 then some (strOfNums (List.replicate ((tk b.f1 need - 1) * 8).toNat 0)) else lookS h ((x.f0 + 1) * 8)) = some (strOfNums (bg (bo v (d8 b need)) x)) := fun hx => by
   have hx2 := ag hV hx
   have := other x hx hu
   rw [if_neg (by omega), hH.1 x hx hu, same x hx hu]
  rcases (ew h0 h1).1 hx with hx | hx | hx
  ·exact old (List.mem_of_mem_take hx)
  ·rw [hb] at hx
   rw [jm hx hu, if_pos rfl]
   unfold bg
   dsimp only
   rw [i3]
   intro j j1 j2
   apply f9
   rw [eq hg.1 (by omega) ht.1 ht.2.1 (by omega), if_neg (by omega), if_pos (by omega)]
  ·exact old (List.mem_of_mem_drop hx)
 ·rw [cd] at hs
  by_cases e : (b.f0 + 1) * 8 = a
  ·exact ⟨⟨b.f0, tk b.f1 need, true⟩, (ew h0 h1).2 (.inr (.inl (by rw [hb]; exact List.mem_cons_self))), rfl, e.symm⟩
  ·rw [if_neg e] at hs
   obtain ⟨x, hx, hu, ha⟩ := hH.2 a s hs
   refine ⟨x, (ew h0 h1).2 ?_, hu, ha⟩
   rcases (jt h0 h1).1 hx with hx | hx | hx
   ·exact .inl hx
   ·rw [hx, hb, hf] at hu; cases hu
   ·exact .inr (.inr hx)
theorem d6 {l : List S35} {c words : Int} (hC : aw l words) (h0 : 0 ≤ c) (h1 : c < l.length) (hu : (rd_T35 l c).f2 = true) {x : S35} (hxu : x.f2 = true) : x ∈ ig l c ↔ x ∈ l ∧ x ≠ rd_T35 l c := by
 have hs := bw (l := l) (i := c) ⟨h0, h1⟩
 have hU2 : aj l = aj (mP l c) ++ rd_T35 l c :: aj (mQ l c) := by
  conv => lhs; rw [hs]
  rw [bm, bm, iz ⟨h0, h1⟩ hu, List.append_assoc]
  rfl
 have hup := i2 hC
 rw [hU2, List.pairwise_append] at hup
 have mU : ∀ L : List S35, x ∈ L ↔ x ∈ aj L := fun L => by
  unfold aj
  rw [List.mem_filter]
  exact ⟨fun h => ⟨h, hxu⟩, fun h => h.1⟩
 have hm : x ∈ ig l c ↔ x ∈ aj (mP l c) ∨ x ∈ aj (mQ l c) := by
  unfold ig
  rw [List.mem_append, List.mem_append, List.mem_singleton, ← mU, ← mU]
  constructor
  ·rintro ((h | h) | h)
   ·exact .inl h
   ·rw [h] at hxu; cases hxu
   ·exact .inr h
  ·rintro (h | h)
   ·exact .inl (.inl h)
   ·exact .inr h
 rw [hm, mU l, hU2, List.mem_append, List.mem_cons]
 constructor
 ·rintro (h | h)
  ·refine ⟨.inl h, fun e => ?_⟩
   have := hup.2.2 x h _ List.mem_cons_self
   rw [e] at this; omega
  ·refine ⟨.inr (.inr h), fun e => ?_⟩
   have := (List.pairwise_cons.1 hup.2.1).1 x h
   rw [e] at this; omega
 ·rintro ⟨h | h | h, hne⟩
  ·exact .inl h
  ·exact absurd h hne
  ·exact .inr h
theorem ga {l : List S35} {v : List Int} {words c z : Int} {s0 : ByteArray} {h : List S122} (hV : HV l v words) (hH : br l v h) (h0 : 0 ≤ c) (h1 : c < l.length) (hu : (rd_T35 l c).f2 = true) :
  br (ig l c) (v.set (rd_T35 l (ae l c)).f0.toNat z) ((⟨((rd_T35 l c).f0 + 1) * 8, s0, false⟩ : S122) :: h) := by
 have ft := bh (l := l) (i := c) ⟨h0, h1⟩
 have hp : rd_T35 l (ae l c) ∈ l := bu ft.1 (by omega)
 have hc : rd_T35 l c ∈ l := bu h0 h1
 have hpg := ag hV hp
 have hcg := ag hV hc
 have hlen := hV.2.2.1
 have hpc : rd_T35 l (ae l c) = rd_T35 l c ∨ (rd_T35 l (ae l c)).f2 = false := by
  unfold ae
  split
  ·case isTrue e => exact .inr e.2
  ·exact .inl rfl
 have apart : ∀ x ∈ l, x.f2 = true → x ≠ rd_T35 l c → x.f0 + x.f1 ≤ (rd_T35 l (ae l c)).f0 ∨ (rd_T35 l (ae l c)).f0 + (rd_T35 l (ae l c)).f1 ≤ x.f0 := fun x hx hxu hne => by
  rcases ci hV.1 hx hp with e | e
  ·rcases hpc with e2 | e2
   ·exact absurd (e.trans e2) hne
   ·rw [e, e2] at hxu; cases hxu
  ·exact e
 refine ⟨fun x hx hxu => ?_, fun a s hs => ?_⟩
 ·obtain ⟨hxl, hne⟩ := (d6 hV.1 h0 h1 hu hxu).1 hx
  have hxg := ag hV hxl
  have ha := apart x hxl hxu hne
  have hd : x.f0 ≠ (rd_T35 l c).f0 := fun e => by
   rcases ci hV.1 hxl hc with e2 | e2
   ·exact hne e2
   ·omega
  rw [bq, if_neg (by omega), hH.1 x hxl hxu]
  congr 2
  refine cr ⟨hxg.1, hxg.2.1⟩ (fun q q1 q2 => ?_)
  rw [bd _ _ (by omega), if_neg (by omega)]
 ·rw [bq] at hs
  by_cases e : ((rd_T35 l c).f0 + 1) * 8 = a
  ·rw [if_pos e] at hs; cases hs
  ·rw [if_neg e] at hs
   obtain ⟨x, hx, hxu, ha⟩ := hH.2 a s hs
   exact ⟨x, (d6 hV.1 h0 h1 hu hxu).2 ⟨hx, fun e2 => by rw [e2] at ha; exact e ha.symm⟩, hxu, ha⟩
theorem gb {l : List S35} {v : List Int} {a : Int} {s0 : ByteArray} {h : List S122} (hH : br l v h) (hno : ∀ b ∈ l, b.f2 = true → (b.f0 + 1) * 8 ≠ a) : br l v ((⟨a, s0, false⟩ : S122) :: h) := by
 refine ⟨fun x hx hu => ?_, fun k s hs => ?_⟩
 ·rw [bq, if_neg (fun e => hno x hx hu e.symm)]
  exact hH.1 x hx hu
 ·rw [bq] at hs
  split at hs
  ·cases hs
  ·exact hH.2 k s hs
theorem e3 {l : List S35} {v B : List Int} {words fr : Int} {h : List S122} {b : S35} (hV : HV l v words) (hH : br l v h) (hB : gv B) (hb : b ∈ l) (hu : b.f2 = true) (h0 : 0 ≤ fr) (h1 : fr + B.length ≤ (b.f1 - 1) * 8) :
  HV l (ao v B ((b.f0 + 1) * 8 + fr) B.length) words ∧ br l (ao v B ((b.f0 + 1) * 8 + fr) B.length) ((⟨(b.f0 + 1) * 8, strOfNums ((bg v b).take fr.toNat ++ B ++ (bg v b).drop (fr.toNat + B.length)), true⟩ : S122) :: h) := by
 have hg := ag hV hb
 have hlen := hV.2.2.1
 have hrd : ∀ q : Int, 0 ≤ q → (q ≤ b.f0 ∨ b.f0 + b.f1 ≤ q) → rd (ao v B ((b.f0 + 1) * 8 + fr) B.length) q = rd v q := fun q q0 hq =>
  c7 hV.2.1 hB (by omega) B.length (by omega) q q0 (by omega)
 have hby := d5 (o := (b.f0 + 1) * 8 + fr) hV.2.1 hB (by omega) B.length (by omega)
 refine ⟨⟨hV.1, bt hV.2.1 hB _, by rw [bs]; exact hlen, fun x hx => ?_⟩, fun x hx hxu => ?_, fun a s hs => ?_⟩
 ·have hxg := ag hV hx
  rw [hrd x.f0 hxg.1, hV.2.2.2 x hx]
  rcases ci hV.1 hx hb with e | e
  ·left; rw [e]; omega
  ·omega
 ·have hxg := ag hV hx
  rw [cd]
  rcases ci hV.1 hx hb with e | e
  ·rw [e, if_pos rfl]
   congr 2
   have hN : ((b.f1 - 1) * 8).toNat = fr.toNat + (B.length + (((b.f1 - 1) * 8).toNat - fr.toNat - B.length)) := by omega
   unfold bg
   conv => rhs; rw [hN, fa, fa]
   rw [dx _ _ _ _ (by omega), gt _ _ _ _ (by omega), List.append_assoc]
   congr 1
   ·refine ch _ _ (fun j j1 j2 => ?_)
    rw [hby j (by omega), if_neg (by omega)]
   ·congr 1
    ·have hl := gu (v := ao v B ((b.f0 + 1) * 8 + fr) B.length) (B := B) (o := (b.f0 + 1) * 8 + (fr.toNat : Int)) B.length 0 (by omega) (fun j j1 j2 => by
      rw [hby _ (by omega), if_pos (by omega)]
      congr 1
      omega)
     rw [show (b.f0 + 1) * 8 + (fr.toNat : Int) + ((0 : Nat) : Int) = (b.f0 + 1) * 8 + (fr.toNat : Int) by omega, List.drop_zero] at hl
     exact hl.symm
    ·rw [show (b.f0 + 1) * 8 + ((fr.toNat + B.length : Nat) : Int) = (b.f0 + 1) * 8 + (fr.toNat : Int) + (B.length : Int) by omega, show ((b.f1 - 1) * 8).toNat - (fr.toNat + B.length) = ((b.f1 - 1) * 8).toNat - fr.toNat - B.length by omega]
     refine ch _ _ (fun j j1 j2 => ?_)
     rw [hby j (by omega), if_neg (by omega)]
  ·rw [if_neg (by omega), hH.1 x hx hxu]
   congr 2
   refine cr ⟨hxg.1, hxg.2.1⟩ (fun q q1 q2 => ?_)
   rw [hrd q (by omega) (by omega)]
 ·rw [cd] at hs
  by_cases e : (b.f0 + 1) * 8 = a
  ·exact ⟨b, hb, hu, e.symm⟩
  ·rw [if_neg e] at hs
   exact hH.2 a s hs
theorem ju {a : Int} (h : -9223372036854775808 ≤ a ∧ a ≤ 9223372036854775807) : (Lit.int .i64 a).wf = true := by
 simp [Lit.wf, IntKind.min, IntKind.max, IntKind.bits, IntKind.signed]
 omega
theorem e4 {h : List S122} {a : Int} (ha : 0 ≤ a ∧ a ≤ 100000) : darninglaw19_mget.f h a = some (getS h a) := by
 unfold darninglaw19_mget.f
 rw [if_pos (ju (by omega))]
theorem gz {h : List S122} {a : Int} (ha : 0 ≤ a ∧ a ≤ 100000) : darninglaw19_mdel.f h a = some ((⟨a, ⟨#[]⟩, false⟩ : S122) :: h) := by
 unfold darninglaw19_mdel.f
 rw [if_pos (ju (by omega))]
theorem g4 {h : List S122} {a : Int} {s : ByteArray} (ha : 0 ≤ a ∧ a ≤ 100000) (hs : s.size ≤ 1000000) (hl : h.length ≤ 1000) : darninglaw19_mput.f h a s = some ((⟨a, s, true⟩ : S122) :: h) := by
 unfold darninglaw19_mput.f
 rw [if_pos ⟨ju (by omega), by unfold maxLen; omega, by unfold maxLen; omega⟩]
theorem g5 (a b : Int) (c : Bool) : darningref4_Off.f a b c = some (offV a) := off_v a b c
theorem jn {l : List S35} (hl : l.length ≤ 100000) (off : Int) (suf : List S35) : ∀ pre : List S35, l = pre ++ suf → Ev (fun k => darningref4_Is.l0 k off l (l.length : Int) (pre.length : Int)) (findS off suf pre.length) := by
 induction suf with
 | nil =>
  intro pre he
  refine Ev.step (fun k => by rw [darningref4_Is.l0]) ?_
  exact ai (by rw [he]; simp) (Ev.now _)
 | cons x suf ih =>
  intro pre he
  have hlt : (pre.length : Int) < (l.length : Int) := by rw [he]; simp; omega
  have em : rd_T35 l (pre.length : Int) = x := by rw [he]; exact ar pre suf x
  have w1 : wrap64 ((pre.length : Int) + 1) = ((pre ++ [x]).length : Int) := by rw [aq (by omega)]; simp
  have h := ih (pre ++ [x]) (by rw [he]; simp)
  have e : findS off (x :: suf) pre.length = if (x.f2 && decide (offV x.f0 = off)) = true then (pre.length : Int) else findS off suf (pre ++ [x]).length := by
   rw [List.length_append]; rfl
  refine Ev.step (fun k => by rw [darningref4_Is.l0]) ?_
  rw [em, w1, e]
  refine ac hlt (ac (by omega) (ac hlt ?_))
  refine ak (fun c1 => ab (g5 _ _ _) (ak (fun c2 => ?_) (fun c2 => ?_))) (fun c1 => ?_)
  ·rw [if_pos (by rw [c1, decide_eq_true c2]; rfl)]
   exact Ev.now _
  ·rw [if_neg (by rw [decide_eq_false c2, Bool.and_false]; decide)]
   exact h
  ·rw [if_neg (by rw [Bool.eq_false_iff.2 c1]; simp)]
   exact h
theorem jo {l : List S35} (hl : l.length ≤ 100000) (off : Int) : Ev (fun k => darningref4_Is.f k l off) (findS off l 0) := jn hl off l [] rfl
theorem dh {l : List S35} (hl : l.length ≤ 512) (hg : ∀ b ∈ l, 2 ≤ b.f1 ∧ b.f1 ≤ 512) : Ev (fun k => darningref4_counted.f k l) true := by
 unfold darningref4_counted.f
 have go : ∀ (suf pre : List S35), l = pre ++ suf → Ev (fun k => darningref4_counted.l0 k l l (l.length : Int) (pre.length : Int)) true := by
  intro suf
  induction suf with
  | nil =>
   intro pre he
   refine Ev.step (fun k => by rw [darningref4_counted.l0]) ?_
   exact ai (by rw [he]; simp) (c8 (decide_eq_true (by omega)))
  | cons x suf ih =>
   intro pre he
   have hlt : (pre.length : Int) < (l.length : Int) := by rw [he]; simp; omega
   have em : rd_T35 l (pre.length : Int) = x := by rw [he]; exact ar pre suf x
   have w1 : wrap64 ((pre.length : Int) + 1) = ((pre ++ [x]).length : Int) := by rw [aq (by omega)]; simp
   have h := ih (pre ++ [x]) (by rw [he]; simp)
   have hx := hg x (by rw [he]; simp)
   refine Ev.step (fun k => by rw [darningref4_counted.l0]) ?_
   rw [em, w1]
   exact ac hlt (ac (by omega) (ac hlt (ab (ee _) (ac (decide_eq_true hx) h))))
 exact go l [] rfl
theorem d7 {l : List S35} {need : Int} (hn : 0 < need) (hl : l.length ≤ 512) (hg : ∀ b ∈ l, 2 ≤ b.f1 ∧ b.f1 ≤ 512) : ∃ r, Ev (fun k => darningref4_MostFree.f k l) r ∧ (need ≤ r ↔ ∃ b ∈ l, b.f2 = false ∧ need ≤ b.f1) := by
 have go : ∀ (suf pre : List S35) (x : Int), l = pre ++ suf → ∃ r, Ev (fun k => darningref4_MostFree.l0 k x l (l.length : Int) (pre.length : Int)) r ∧ (need ≤ r ↔ need ≤ x ∨ ∃ b ∈ suf, b.f2 = false ∧ need ≤ b.f1) := by
  intro suf
  induction suf with
  | nil =>
   intro pre x he
   refine ⟨x, Ev.step (fun k => by rw [darningref4_MostFree.l0]) ?_, by simp⟩
   exact ai (by rw [he]; simp) (Ev.now _)
  | cons y suf ih =>
   intro pre x he
   have hlt : (pre.length : Int) < (l.length : Int) := by rw [he]; simp; omega
   have em : rd_T35 l (pre.length : Int) = y := by rw [he]; exact ar pre suf y
   have w1 : wrap64 ((pre.length : Int) + 1) = ((pre ++ [y]).length : Int) := by rw [aq (by omega)]; simp
   by_cases hu : y.f2 = true
   ·obtain ⟨r, h1, h2⟩ := ih (pre ++ [y]) x (by rw [he]; simp)
    refine ⟨r, Ev.step (fun k => by rw [darningref4_MostFree.l0]) ?_, h2.trans ?_⟩
    ·rw [em, w1]
     exact ac hlt (ac (by omega) (ac hlt (ac hu h1)))
    ·constructor
     ·rintro (h | ⟨b, hb, h⟩)
      ·exact .inl h
      ·exact .inr ⟨b, List.mem_cons_of_mem _ hb, h⟩
     ·rintro (h | ⟨b, hb, h⟩)
      ·exact .inl h
      ·rcases List.mem_cons.1 hb with e | hb
       ·rw [e, hu] at h; cases h.1
       ·exact .inr ⟨b, hb, h⟩
   ·obtain ⟨r, h1, h2⟩ := ih (pre ++ [y]) (mx x y.f1) (by rw [he]; simp)
    refine ⟨r, Ev.step (fun k => by rw [darningref4_MostFree.l0]) ?_, h2.trans ?_⟩
    ·rw [em, w1]
     exact ac hlt (ac (by omega) (ac hlt (ai hu h1)))
    ·have hm : need ≤ mx x y.f1 ↔ need ≤ x ∨ need ≤ y.f1 := by unfold mx; split <;> omega
     rw [hm]
     constructor
     ·rintro ((h | h) | ⟨b, hb, h⟩)
      ·exact .inl h
      ·exact .inr ⟨y, List.mem_cons_self, by simpa using hu, h⟩
      ·exact .inr ⟨b, List.mem_cons_of_mem _ hb, h⟩
     ·rintro (h | ⟨b, hb, h⟩)
      ·exact .inl (.inl h)
      ·rcases List.mem_cons.1 hb with e | hb
       ·rw [e] at h; exact .inl (.inr h.2)
       ·exact .inr ⟨b, hb, h⟩
 obtain ⟨r, h1, h2⟩ := go l [] 0 rfl
 refine ⟨r, ?_, h2.trans ⟨fun h => h.resolve_left (by omega), .inr⟩⟩
 unfold darningref4_MostFree.f
 exact aa (dh hl hg) (ac rfl h1)
theorem g6 {l : List S75} (d : Nat) : ∀ i : Int, 0 ≤ i → i + d = 100 → ∃ r, Ev (fun k => darninglaw19_Heavy.l0 k l (l.length : Int) i) r ∧ (¬ r > 0 → (l.length : Int) ≤ 100 ∧ ∀ j : Int, i ≤ j → j < l.length → ((rd_T75 l j).f4.length : Int) ≤ 500) := by
 induction d with
 | zero =>
  intro i h0 h1
  by_cases hi : i < (l.length : Int)
  ·refine ⟨i + 1, Ev.step (fun k => by rw [darninglaw19_Heavy.l0]) ?_, fun h => by omega⟩
   rw [aq (n := i + 1) (by omega)]
   exact ac hi (ac h0 (ac hi (ac (by omega) (Ev.now _))))
  ·refine ⟨0, Ev.step (fun k => by rw [darninglaw19_Heavy.l0]) ?_, fun _ => ⟨by omega, fun j j0 j1 => by omega⟩⟩
   exact ai hi (Ev.now _)
 | succ d ih =>
  intro i h0 h1
  by_cases hi : i < (l.length : Int)
  ·by_cases hb : ((rd_T75 l i).f4.length : Int) > 500
   ·refine ⟨i + 1, Ev.step (fun k => by rw [darninglaw19_Heavy.l0]) ?_, fun h => by omega⟩
    rw [aq (n := i + 1) (by omega)]
    exact ac hi (ac h0 (ac hi (ai (by omega) (ac hb (Ev.now _)))))
   ·obtain ⟨r, h2, h3⟩ := ih (i + 1) (by omega) (by omega)
    refine ⟨r, Ev.step (fun k => by rw [darninglaw19_Heavy.l0]) ?_, fun h => ⟨(h3 h).1, fun j j0 j1 => ?_⟩⟩
    ·rw [aq (n := i + 1) (by omega)]
     exact ac hi (ac h0 (ac hi (ai (by omega) (ai hb h2))))
    ·by_cases e : j = i
     ·rw [e]; omega
     ·exact (h3 h).2 j (by omega) j1
  ·refine ⟨0, Ev.step (fun k => by rw [darninglaw19_Heavy.l0]) ?_, fun _ => ⟨by omega, fun j j0 j1 => by omega⟩⟩
   exact ai hi (Ev.now _)
def cw (b : S35) : Int := (b.f0 + 1) * 8
theorem ct {l : List S35} {v : List Int} {words : Int} {off : Int} (hV : HV l v words) (h : off ∈ (aj l).map cw) : ∃ b ∈ l, b.f2 = true ∧ off = (b.f0 + 1) * 8 := by
 obtain ⟨b, hb, e⟩ := List.mem_map.1 h
 obtain ⟨h1, h2⟩ := List.mem_filter.1 hb
 exact ⟨b, h1, h2, e.symm⟩
section
variable {l : List S35} {v counts : List Int} {h : List S122} {x0 idx d0 d1 d2 d3 off : Int} {l2 : List S75} {d4 U : List Int} {n9 : Nat}
theorem i8 (hV : HV l v (x0 * 8)) (hU : U = (aj l).map cw)
  (H4 : ∀ off, ((U = [] ∧ off = 8) ∨ off ∈ U) → Ev (fun k => darninglaw19_ImageKeeps.j4 k x0 counts v h l U off l2 (l2.length : Int) idx d0 d1 d2 d3 d4) true) (suf : List S35) : ∀ pre : List S35, l = pre ++ suf →
  Ev (fun k => darninglaw19_ImageKeeps.l1 k x0 counts v h l ((aj pre).map cw) l2 (l2.length : Int) idx l (l.length : Int) (pre.length : Int) d0 d1 d2 d3 d4) true := by
 have hl := cc hV.1
 induction suf with
 | nil =>
  intro pre he
  rw [List.append_nil] at he
  rw [← he, ← hU]
  have hUl : U.length ≤ 256 := by rw [hU, List.length_map]; exact Nat.le_trans (List.length_filter_le _ _) hl
  refine Ev.step (fun k => by rw [darninglaw19_ImageKeeps.l1]) ?_
  refine ai (by omega) ?_
  by_cases hz : (U.length : Int) > 0
  ·have e : IntKind.u64.wrap (U.length : Int) = (U.length : Int) := av _ (by omega) (by omega)
   rw [e, jd _ _ hz (by omega)]
   have i0 := Int.emod_nonneg (d2 % 18446744073709551616) (b := (U.length : Int)) (by omega)
   have i1 := Int.emod_lt_of_pos (d2 % 18446744073709551616) hz
   refine ac hz (ai (by omega) (ac i0 (ac i1 (H4 _ (.inr ?_)))))
   unfold rd
   rw [List.getD_eq_getElem?_getD, List.getElem?_eq_getElem (by omega)]
   exact List.getElem_mem _
  ·exact ai hz (H4 _ (.inl ⟨List.eq_nil_of_length_eq_zero (by omega), rfl⟩))
 | cons x suf ih =>
  intro pre he
  have hlt : (pre.length : Int) < (l.length : Int) := by rw [he]; simp; omega
  have em : rd_T35 l (pre.length : Int) = x := by rw [he]; exact ar pre suf x
  have w1 : wrap64 ((pre.length : Int) + 1) = ((pre ++ [x]).length : Int) := by rw [aq (by omega)]; simp
  have hx := ag hV (b := x) (by rw [he]; simp)
  have next := ih (pre ++ [x]) (by rw [he]; simp)
  have hUl : ((aj pre).map cw).length ≤ 256 := by
   rw [List.length_map]
   refine Nat.le_trans (List.length_filter_le _ _) ?_
   omega
  have step : ∀ r, Ev (fun k => darninglaw19_ImageKeeps.l1 k x0 counts v h l r l2 (l2.length : Int) idx l (l.length : Int) ((pre ++ [x]).length : Int) d0 d1 d2 d3 d4) true → Ev (fun k => darninglaw19_ImageKeeps.j3 k x0 counts v h l r l2 (l2.length : Int) idx l (l.length : Int) (pre.length : Int) d0 d1 d2 d3 d4) true := fun r hr => by
   refine Ev.step (fun k => by rw [darninglaw19_ImageKeeps.j3]) ?_
   rw [w1]; exact hr
  rw [bm, List.map_append] at next
  refine Ev.step (fun k => by rw [darninglaw19_ImageKeeps.l1]) ?_
  rw [em]
  refine ac hlt (ac (by omega) (ac hlt ?_))
  by_cases hu : x.f2 = true
  ·rw [dw (A := [x]) (fun b hb => by rw [List.mem_singleton.1 hb]; exact hu)] at next
   refine ac hu (ab (g5 _ _ _) (ac (by omega) (step _ ?_)))
   rw [b9 (by omega)]
   exact next
  ·rw [cg (A := [x]) (fun b hb => by rw [List.mem_singleton.1 hb]; simpa using hu), List.map_nil, List.append_nil] at next
   exact ai hu (step _ next)
variable (J9 : ∀ l' v' h', HV l' v' (x0 * 8) → br l' v' h' → h'.length ≤ n9 + 1 → Ev (fun k => darninglaw19_ImageKeeps.j9 k x0 counts v' h' l2 (l2.length : Int) idx) true)
include J9
theorem g7 (hV : HV l v (x0 * 8)) (hH : br l v h) (hn : h.length ≤ n9) (h9 : n9 ≤ 200) (hd : d0 = 0) : Ev (fun k => darninglaw19_ImageKeeps.j4 k x0 counts v h l U off l2 (l2.length : Int) idx d0 d1 d2 d3 d4) true := by
 have hl := cc hV.1
 have hg : ∀ b ∈ l, 2 ≤ b.f1 ∧ b.f1 ≤ 512 := fun b hb => by have := ag hV hb; omega
 obtain ⟨r, hr, hcase⟩ := f3 (n := d1) (counts := counts) hV (by omega)
 have same6 : ∀ (es : List S30) (at_ err : Int), err ≠ 0 → Ev (fun k => darninglaw19_ImageKeeps.j6 k x0 counts v h es at_ err l2 (l2.length : Int) idx false) true := fun es at_ err he => by
  refine Ev.step (fun k => by rw [darninglaw19_ImageKeeps.j6]) ?_
  exact ai (by decide) (ai he (J9 l v h hV hH (by omega)))
 refine Ev.step (fun k => by rw [darninglaw19_ImageKeeps.j4]) ?_
 refine ac hd (aa hr (ab (ca d1) ?_))
 have hnr := gq d1
 rcases hcase with ⟨hz, e⟩ | ⟨hz, hno, e⟩ | ⟨hz, c, can, e⟩
 ·rw [e]
  dsimp only
  refine ai (by omega) ?_
  refine Ev.step (fun k => by rw [darninglaw19_ImageKeeps.j5]) ?_
  exact ai (by decide) (ai (by decide) (same6 _ _ _ (by decide)))
 ·rw [e]
  dsimp only
  obtain ⟨m, hm, hmi⟩ := d7 (need := am d1) (by omega) (by omega) hg
  have hlt : ¬ m ≥ am d1 := fun hh => by
   obtain ⟨b, hb, hb2, hb3⟩ := hmi.1 hh
   obtain ⟨j, j0, j1, ej⟩ := de hb
   exact hno j j0 j1 ⟨by rw [ej]; exact hb2, by rw [ej]; exact hb3⟩
  refine ac (by omega) (aa hm (ab (ca d1) ?_))
  rw [decide_eq_false hlt]
  refine Ev.step (fun k => by rw [darninglaw19_ImageKeeps.j5]) ?_
  refine ai (by decide) (ac rfl (ab (ca d1) ?_))
  rw [beq_eq_false_iff_ne.2 hz]
  exact same6 _ _ _ (by decide)
 ·rw [e]
  dsimp only
  have c0 := can.2.1
  have c1 := can.2.2.1
  have hrb := bl can.1 c0 c1
  have htk := fu can.2.2.2.2 hrb.2.1
  have hbl : rd_T35 l c ∈ l := bu c0 c1
  obtain ⟨m, hm, hmi⟩ := d7 (need := am d1) (by omega) (by omega) hg
  have hge : m ≥ am d1 := hmi.2 ⟨_, hbl, can.2.2.2.1, by omega⟩
  refine ac (by omega) (aa hm (ab (ca d1) ?_))
  rw [decide_eq_true hge]
  refine Ev.step (fun k => by rw [darninglaw19_ImageKeeps.j5]) ?_
  refine ai (by decide) (ai (by decide) ?_)
  refine Ev.step (fun k => by rw [darninglaw19_ImageKeeps.j6]) ?_
  have hel := im (b := rd_T35 l c) (need := am d1) htk.1
  have hlen := hV.2.2.1
  have hwd := hV.1.1
  unfold a8 at hwd
  have hap := b8 (v := v) (es := d8 (rd_T35 l c) (am d1)) (by omega) (by split at hel <;> omega)
  have hV1 := jj hV can
  have hcr := jh (need := am d1) c0 c1
  have hc1 : c < ((e7 l c (am d1)).length : Int) := by rw [hcr.2]; split <;> omega
  have hcl := cc hV1.1
  have hf := jo (l := e7 l c (am d1)) (by omega) (((rd_T35 l c).f0 + 1) * 8)
  rw [du hV1.1 c0 hc1 (by rw [hcr.1]) (by rw [hcr.1])] at hf
  refine ai (by decide) (ac rfl (aa hap (aa (az hV1) (aa hf ?_))))
  dsimp only
  rw [hcr.1]
  dsimp only
  rw [aq (n := tk (rd_T35 l c).f1 (am d1) - 1) (by omega), aq (n := (tk (rd_T35 l c).f1 (am d1) - 1) * 8) (by omega)]
  refine ai (by omega) (ac c0 (ac hc1 (ac (by omega) (ac (by omega) (ab (g4 (by omega) ?_ (by omega)) (J9 _ _ _ hV1 (ez hV hH can) (by simp; omega)))))))
  rw [ax, List.length_replicate]
  omega
theorem i9 (hV : HV l v (x0 * 8)) (hH : br l v h) (hn : h.length ≤ n9) (hU : U = (aj l).map cw) (ho : (U = [] ∧ off = 8) ∨ off ∈ U) (hd : d0 = 1) : Ev (fun k => darninglaw19_ImageKeeps.j4 k x0 counts v h l U off l2 (l2.length : Int) idx d0 d1 d2 d3 d4) true := by
 have hl := cc hV.1
 have hlen := hV.2.2.1
 have hwd := hV.1.1
 unfold a8 at hwd
 refine Ev.step (fun k => by rw [darninglaw19_ImageKeeps.j4]) ?_
 refine ai (by omega) (ac hd ?_)
 rcases ho with ⟨hz, e⟩ | ho
 ·have hno : ∀ b ∈ l, b.f2 = true → False := fun b hb hu => by
   have : cw b ∈ U := by rw [hU]; exact List.mem_map_of_mem (List.mem_filter.2 ⟨hb, hu⟩)
   rw [hz] at this; cases this
  have hf := gr (off := off) hV (by omega) (fun b hb hu => (hno b hb hu).elim)
  have hap := b8 (v := v) (es := ([] : List S30)) (by omega) (by simp)
  have hUz : ¬ (U.length : Int) > 0 := by rw [hz]; simp
  refine aa hf (ai ?_ (aa hap (ab (gz (by omega)) (J9 l v _ hV (gb hH (fun b hb hu => (hno b hb hu).elim)) (by simp; omega)))))
  rw [decide_eq_false hUz]
  dsimp only
  decide
 ·obtain ⟨b, hb, hu, eo⟩ := ct hV (by rw [← hU]; exact ho)
  obtain ⟨c, c0, c1, ec⟩ := de hb
  have hbg := ag hV hb
  have huc : (rd_T35 l c).f2 = true := by rw [ec]; exact hu
  have hf := f6 (off := off) hV (by omega) c0 c1 huc (by rw [ec]; exact eo)
  have can := gk hV.1 ⟨c0, c1⟩ huc
  have hV2 := jk hV can
  have ft := bh (l := l) (i := c) ⟨c0, c1⟩
  have hrf := bf hV.1.2 (j := ae l c) ft.1 (by omega)
  have hap := b8 (v := v) (es := [(⟨(rd_T35 l (ae l c)).f0, bi (ad (mM l c)) false⟩ : S30)]) (by omega) (by simp)
  have ea : bo v [(⟨(rd_T35 l (ae l c)).f0, bi (ad (mM l c)) false⟩ : S30)] = v.set (rd_T35 l (ae l c)).f0.toNat (bi (ad (mM l c)) false) := by
   show (if _ then _ else _) = _
   rw [if_pos]
   dsimp only
   omega
  rw [ea] at hap
  have hUz : (U.length : Int) > 0 := by
   have := List.length_pos_of_mem ho
   omega
  have hH2 := ga (z := bi (ad (mM l c)) false) (s0 := ⟨#[]⟩) hV hH c0 c1 huc
  rw [ec, ← eo] at hH2
  refine aa hf (ai ?_ (aa hap (ab (gz (by omega)) (J9 _ _ _ hV2 hH2 (by simp; omega)))))
  rw [decide_eq_true hUz]
  dsimp only
  decide
set_option maxHeartbeats 400000 in
theorem g8 (hV : HV l v (x0 * 8)) (hH : br l v h) (hn : h.length ≤ n9) (h9 : n9 ≤ 200) (hU : U = (aj l).map cw) (ho : (U = [] ∧ off = 8) ∨ off ∈ U) (hB : gv d4) (hd : d0 = 2) (hb5 : (d4.length : Int) ≤ 500) : Ev (fun k => darninglaw19_ImageKeeps.j4 k x0 counts v h l U off l2 (l2.length : Int) idx d0 d1 d2 d3 d4) true := by
 have hl := cc hV.1
 have hlen := hV.2.2.1
 have hwd := hV.1.1
 unfold a8 at hwd
 have hoff : 0 ≤ off ∧ off ≤ 100000 := by
  rcases ho with ⟨_, e⟩ | ho
  ·omega
  ·obtain ⟨b, hb, hu, eo⟩ := ct hV (by rw [← hU]; exact ho)
   have := ag hV hb
   omega
 -- what the map holds there
 have hs : ((U = [] ∧ off = 8) ∧ getS h off = ⟨#[]⟩) ∨ ∃ b ∈ l, b.f2 = true ∧ off = (b.f0 + 1) * 8 ∧ getS h off = strOfNums (bg v b) := by
  rcases ho with ⟨hz, e⟩ | ho
  ·left
   refine ⟨⟨hz, e⟩, ?_⟩
   unfold getS
   cases hk : lookS h off with
   | none => rfl
   | some s =>
    obtain ⟨b, hb, hu, _⟩ := hH.2 _ _ hk
    have : cw b ∈ U := by rw [hU]; exact List.mem_map_of_mem (List.mem_filter.2 ⟨hb, hu⟩)
    rw [hz] at this; cases this
  ·right
   obtain ⟨b, hb, hu, eo⟩ := ct hV (by rw [← hU]; exact ho)
   refine ⟨b, hb, hu, eo, ?_⟩
   unfold getS
   rw [eo, hH.1 b hb hu]
   rfl
 have hsz : (getS h off).size ≤ 5000 ∧ ∀ b ∈ l, b.f2 = true → off = (b.f0 + 1) * 8 → ((getS h off).size : Int) = (b.f1 - 1) * 8 := by
  rcases hs with ⟨⟨hz, _⟩, e⟩ | ⟨b, hb, hu, eo, e⟩
  ·refine ⟨by rw [e]; show 0 ≤ 5000; omega, fun b hb hu _ => ?_⟩
   have : cw b ∈ U := by rw [hU]; exact List.mem_map_of_mem (List.mem_filter.2 ⟨hb, hu⟩)
   rw [hz] at this; cases this
  ·have hbg := ag hV hb
   have e1 : (getS h off).size = ((b.f1 - 1) * 8).toNat := by rw [e, ax]; exact df _ _ _
   refine ⟨by omega, fun b2 hb2 hu2 eo2 => ?_⟩
   rcases ci hV.1 hb hb2 with e2 | e2
   ·rw [← e2]; omega
   ·have := ag hV hb2
    omega
 refine Ev.step (fun k => by rw [darninglaw19_ImageKeeps.j4]) ?_
 refine ai (by omega) (ai (by omega) (ac hd (ab (e4 hoff) ?_)))
 obtain ⟨s, es⟩ : ∃ s, s = getS h off := ⟨_, rfl⟩
 rw [← es] at hsz ⊢
 have hs2 : 0 < (s.size : Int) + 2 ∧ (s.size : Int) + 2 ≤ 1000000 := by have := hsz.1; omega
 have u1 : IntKind.u64.wrap (wrap64 ((s.size : Int) + 2)) = (s.size : Int) + 2 := by rw [aq (by omega), av _ (by omega) (by omega)]
 rw [u1, jd d3 ((s.size : Int) + 2) hs2.1 hs2.2]
 clear u1
 have f0 := Int.emod_nonneg (d3 % 18446744073709551616) (b := (s.size : Int) + 2) (by omega)
 have f1 := Int.emod_lt_of_pos (d3 % 18446744073709551616) (b := (s.size : Int) + 2) (by omega)
 generalize d3 % 18446744073709551616 % ((s.size : Int) + 2) = fr at f0 f1 ⊢
 rw [aq (n := off + fr) (by omega), aq (n := fr + (d4.length : Int)) (by omega)]
 obtain ⟨r, hr, hri, hrw⟩ := gy (o := off + fr) hV hB
 have same8 : ∀ es2 : List S30, Ev (fun k => darninglaw19_ImageKeeps.j8 k x0 counts v h off fr es2 false l2 (l2.length : Int) idx false d0 d1 d2 d3 d4) true := fun es2 => by
  refine Ev.step (fun k => by rw [darninglaw19_ImageKeeps.j8]) ?_
  exact ai (by decide) (ai (by decide) (J9 l v h hV hH (by omega)))
 refine ai (by omega) ?_
 -- it fits, or not
 have fit : ∀ (es2 : List S30) (err : Int) (b : S35), b ∈ l → b.f2 = true → off = (b.f0 + 1) * 8 → fr + d4.length ≤ (b.f1 - 1) * 8 → (d4.length : Int) ≤ 448 → err = 0 → es2.length ≤ 448 → bo v es2 = ao v d4 (off + fr) d4.length →
   Ev (fun k => darninglaw19_ImageKeeps.j7 k x0 counts v h off fr es2 err true l2 (l2.length : Int) idx d0 d1 d2 d3 d4) true := by
  intro es2 err b hb hu eo hfit h448 he hel happ
  have hsize := hsz.2 b hb hu eo
  have hbg := ag hV hb
  have hse : s = strOfNums (bg v b) := by
   rw [es]; unfold getS; rw [eo, hH.1 b hb hu]; rfl
  have hbl : (bg v b).length = ((b.f1 - 1) * 8).toNat := df _ _ _
  refine Ev.step (fun k => by rw [darninglaw19_ImageKeeps.j7]) ?_
  refine ac he (ac rfl ?_)
  refine Ev.step (fun k => by rw [darninglaw19_ImageKeeps.j8]) ?_
  have hap := b8 (v := v) (es := es2) (by omega) (by omega)
  rw [happ, eo] at hap
  obtain ⟨hV3, hH3⟩ := e3 (fr := fr) hV hH hB hb hu f0 hfit
  have e1 : s.extract 0 fr.toNat = strOfNums ((bg v b).take fr.toNat) := by rw [hse, dg, List.drop_zero, Nat.sub_zero]
  have e2 : s.extract (fr + (d4.length : Int)).toNat s.size = strOfNums ((bg v b).drop (fr.toNat + d4.length)) := by
   rw [hse, dg, ax, List.take_of_length_le (by rw [List.length_drop]; omega), show (fr + (d4.length : Int)).toNat = fr.toNat + d4.length by omega]
  refine ai (by decide) (ac rfl (aa hap (ab (e4 hoff) ?_)))
  rw [← es, aq (n := fr + (d4.length : Int)) (by omega), e1]
  refine ac f0 (ac (by omega) (ac ?_ (ab (e4 hoff) ?_)))
  ·rw [ax, ax, List.length_take]; omega
  ·rw [← es, e2, fc, fc]
   refine ac (by omega) (ac (by omega) (ac ?_ (ab (g4 hoff ?_ (by omega)) ?_)))
   ·rw [ax, ax, List.length_append, List.length_take, List.length_drop]; omega
   ·rw [ax, List.length_append, List.length_append, List.length_take, List.length_drop]; omega
   ·rw [eo]
    exact J9 _ _ _ hV3 hH3 (by simp; omega)
 have nofit : ∀ (es2 : List S30) (err : Int), (err = 0 → r = true) → Ev (fun k => darninglaw19_ImageKeeps.j7 k x0 counts v h off fr es2 err false l2 (l2.length : Int) idx d0 d1 d2 d3 d4) true := by
  intro es2 err he
  refine Ev.step (fun k => by rw [darninglaw19_ImageKeeps.j7]) ?_
  refine ak (fun c1 => ai (by decide) (ak (fun c2 => ?_) (fun c2 => same8 _))) (fun c1 => same8 _)
  rw [aq (n := off + fr) (by omega)]
  have hrt := he c1
  rw [hrt] at hr
  exact aa hr (ac rfl (same8 _))
 have gone : ∀ (es2 : List S30) (err : Int), (err = 0 → r = true) → ((U.length : Int) > 0 → fr + (d4.length : Int) ≤ (s.size : Int) → (d4.length : Int) ≤ 448 → Ev (fun k => darninglaw19_ImageKeeps.j7 k x0 counts v h off fr es2 err true l2 (l2.length : Int) idx d0 d1 d2 d3 d4) true) →
   Ev (fun k => if (U.length : Int) > 0 then (if fr + (d4.length : Int) ≤ (s.size : Int) then (darninglaw19_ImageKeeps.j7 k x0 counts v h off fr es2 err (decide ((d4.length : Int) ≤ 448)) l2 (l2.length : Int) idx d0 d1 d2 d3 d4) else (darninglaw19_ImageKeeps.j7 k x0 counts v h off fr es2 err false l2 (l2.length : Int) idx d0 d1 d2 d3 d4)) else (darninglaw19_ImageKeeps.j7 k x0 counts v h off fr es2 err false l2 (l2.length : Int) idx d0 d1 d2 d3 d4)) true := by
  intro es2 err he hyes
  refine ak (fun c1 => ak (fun c2 => ?_) (fun _ => nofit _ _ he)) (fun _ => nofit _ _ he)
  by_cases c3 : (d4.length : Int) ≤ 448
  ·rw [decide_eq_true c3]; exact hyes c1 c2 c3
  ·rw [decide_eq_false c3]; exact nofit _ _ he
 rcases hrw with ⟨hf, hw⟩ | ⟨ht, es2, hw, hel, happ⟩
 ·refine aa hw ?_
  dsimp only
  refine gone [] 1 (fun e => absurd e (by decide)) (fun c1 c2 c3 => ?_)
  exfalso
  rcases hs with ⟨⟨hz, _⟩, _⟩ | ⟨b, hb, hu, eo, _⟩
  ·rw [hz] at c1; simp at c1
  ·have := hsz.2 b hb hu eo
   have : r = true := hri.2 ⟨by omega, c3, b, hb, hu, by omega, by omega⟩
   rw [hf] at this; cases this
 ·refine aa hw ?_
  dsimp only
  refine gone es2 0 (fun _ => ht) (fun c1 c2 c3 => ?_)
  rcases hs with ⟨⟨hz, _⟩, _⟩ | ⟨b, hb, hu, eo, _⟩
  ·rw [hz] at c1; simp at c1
  ·have := hsz.2 b hb hu eo
   exact fit _ _ b hb hu eo (by omega) c3 rfl hel happ
end
theorem jp {d : List Int} (h : ∀ x ∈ d, (Lit.int .u8 x).wf = true) : gv d := by
 intro j
 unfold rd
 rw [List.getD_eq_getElem?_getD]
 by_cases hj : j.toNat < d.length
 ·rw [List.getElem?_eq_getElem hj]
  have := h _ (List.getElem_mem hj)
  simp [Lit.wf, IntKind.min, IntKind.max, IntKind.bits, IntKind.signed] at this
  exact this
 ·rw [List.getElem?_eq_none (by omega)]
  exact ⟨by decide, by decide⟩
theorem g9 {x0 : Int} {counts : List Int} {l2 : List S75} (hB : ∀ x ∈ l2, gv x.f4) (h100 : (l2.length : Int) ≤ 100) (h500 : ∀ j : Int, 0 ≤ j → j < l2.length → ((rd_T75 l2 j).f4.length : Int) ≤ 500) (d : Nat) : ∀ (i : Nat) (l : List S35) (v : List Int) (h : List S122), i + d = l2.length → HV l v (x0 * 8) → br l v h → h.length ≤ i →
  Ev (fun k => darninglaw19_ImageKeeps.l0 k x0 counts v h l2 (l2.length : Int) (i : Int)) true := by
 induction d with
 | zero =>
  intro i l v h hi hV hH hn
  refine Ev.step (fun k => by rw [darninglaw19_ImageKeeps.l0]) ?_
  exact ai (by omega) (aa dv (Ev.now _))
 | succ d ih =>
  intro i l v h hi hV hH hn
  have hwd := hV.1.1
  unfold a8 at hwd
  have J9 : ∀ l' v' h', HV l' v' (x0 * 8) → br l' v' h' → h'.length ≤ i + 1 → Ev (fun k => darninglaw19_ImageKeeps.j9 k x0 counts v' h' l2 (l2.length : Int) (i : Int)) true := fun l' v' h' hV' hH' hn' => by
   have next := ih (i + 1) l' v' h' (by omega) hV' hH' hn'
   refine Ev.step (fun k => by rw [darninglaw19_ImageKeeps.j9]) ?_
   rw [aq (n := (i : Int) + 1) (by omega)]
   exact aa (i7 hV' hH') (ac rfl next)
  have hBi : gv (rd_T75 l2 (i : Int)).f4 := by
   unfold rd_T75
   rw [List.getD_eq_getElem?_getD, Int.toNat_natCast, List.getElem?_eq_getElem (by omega)]
   exact hB _ (List.getElem_mem _)
  refine Ev.step (fun k => by rw [darninglaw19_ImageKeeps.l0]) ?_
  refine ac (by omega) (ac (by omega) (ac (by omega) (aa (az hV) (ac rfl (ac (by rw [aq (by omega)]; exact hV.2.2.1) ?_)))))
  refine i8 (U := (aj l).map cw) hV rfl (fun off ho => ?_) l [] rfl
  by_cases c0 : (rd_T75 l2 (i : Int)).f0 = 0
  ·exact g7 J9 hV hH hn (by omega) c0
  ·by_cases c1 : (rd_T75 l2 (i : Int)).f0 = 1
   ·exact i9 J9 hV hH hn rfl ho c1
   ·by_cases c2 : (rd_T75 l2 (i : Int)).f0 = 2
    ·exact g8 J9 hV hH hn (by omega) rfl ho hBi c2 (h500 _ (by omega) (by omega))
    ·refine Ev.step (fun k => by rw [darninglaw19_ImageKeeps.j4]) ?_
     exact ai c0 (ai c1 (ai c2 (J9 l v h hV hH (by omega))))
theorem ImageKeeps : darninglaw19_ImageKeeps.Pure := by
 intro lines counts l2 h0 h1 h2 h3 h4 h5 h6
 apply Ev.rounds
 unfold darninglaw19_ImageKeeps.f
 have outp : Ev (fun k => darninglaw19_ImageKeeps.j0 k lines counts l2 true) true := by
  refine Ev.step (fun k => by rw [darninglaw19_ImageKeeps.j0]) ?_
  exact ac rfl (aa dv (Ev.now _))
 obtain ⟨r, hr, hri⟩ := g6 (l := l2) 100 0 (by omega) (by omega)
 have hr2 : Ev (fun k => darninglaw19_Heavy.f k l2) r := hr
 refine aa hr2 (ak (fun _ => outp) (fun c1 => ?_))
 obtain ⟨h100, h500⟩ := hri c1
 by_cases c2 : (counts.length : Int) > 60
 ·rw [decide_eq_true c2]; exact outp
 rw [decide_eq_false c2]
 refine Ev.step (fun k => by rw [darninglaw19_ImageKeeps.j0]) ?_
 rw [jd lines 64 (by omega) (by omega)]
 have x0 := Int.emod_nonneg (lines % 18446744073709551616) (b := 64) (by omega)
 have x1 := Int.emod_lt_of_pos (lines % 18446744073709551616) (b := 64) (by omega)
 generalize lines % 18446744073709551616 % 64 = p at x0 x1 ⊢
 rw [aq (n := 1 + p) (by omega), aq (n := (1 + p) * 8) (by omega)]
 have hM : a8 ((1 + p) * 8) := by unfold a8; omega
 have hf : chain_First.f ((1 + p) * 8) = some ((List.replicate ((1 + p) * 8).toNat 0).set 0 (2 * ((1 + p) * 8))) := by rw [gi, if_pos hM]
 refine ai (by decide) (ab hf ?_)
 refine g9 (fun x hx => jp (h6 x hx).2.2.2.2.2) h100 (fun j j0 j1 => h500 j j0 j1) l2.length 0 _ _ [] (by omega) (gs hM) ⟨fun b hb hu => ?_, fun a s hs => by cases hs⟩ (by simp)
 rw [List.mem_singleton.1 hb] at hu
 cases hu

end Go.Proofs.Ytglekonhdjploaa.Pure
