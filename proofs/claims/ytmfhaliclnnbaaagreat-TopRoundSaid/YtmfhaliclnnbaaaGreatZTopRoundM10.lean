import Derived.Test.YtmfhaliclnnbaaaGreatZTopRoundM3
import Derived.Test.YtmfhaliclnnbaaaGreatZTopRoundM6
import Derived.Test.YtmfhaliclnnbaaaGreatZTopRoundM8
import Derived.Test.YtmfhaliclnnbaaaGreatZTopRoundM9
namespace Go.Proofs.YtmfhaliclnnbaaaGreat.Pl
open Go.RowKit Go.Proofs.YtmfhaliclnnbaaaGreatW.PrintWords Go.Proofs.YtmfhaliclnnbaaaGreatW.PrintLast Go.Proofs.YtmfhaliclnnbaaaGreatW.PrintMore Go.Proofs.YtmfhaliclnnbaaaGreat.XTopWhole
set_option linter.unusedVariables false
set_option linter.unusedSimpArgs false
set_option maxRecDepth 100000
set_option maxHeartbeats 8000000
def qc4 (x c s : Nat) : Nat := ((BitVec.ofNat 64 x &&& ~~~ BitVec.ofNat 64 (255 * 2 ^ s)) ||| BitVec.ofNat 64 (c * 2 ^ s)).toNat
theorem qh9 (x c s i : Nat) (hc : c < 256) (hi : i < 64) : (qc4 x c s).testBit i = if s ≤ i ∧ i < s + 8 then c.testBit (i - s) else x.testBit i := by
 unfold qc4;rw [← BitVec.getLsbD, BitVec.getLsbD_or, BitVec.getLsbD_and, BitVec.getLsbD_not, BitVec.getLsbD_ofNat, BitVec.getLsbD_ofNat, BitVec.getLsbD_ofNat, ← Nat.shiftLeft_eq, ← Nat.shiftLeft_eq, Nat.testBit_shiftLeft, Nat.testBit_shiftLeft,
  show (255 : Nat) = 2 ^ 8 - 1 from rfl, Nat.testBit_two_pow_sub_one]
 by_cases h1 : s ≤ i
 ·by_cases h2 : i < s + 8
  ·rw [if_pos ⟨h1, h2⟩, decide_eq_true hi, decide_eq_true (show i ≥ s from h1), decide_eq_true (show i - s < 8 by omega)];simp
  ·have : c.testBit (i - s) = false := Nat.testBit_lt_two_pow (Nat.lt_of_lt_of_le hc (Nat.pow_le_pow_right (n := 2) (i := 8) (by decide) (by omega)));rw [if_neg (fun h => h2 h.2), decide_eq_true hi, decide_eq_false (show ¬ i - s < 8 by omega), this];simp
 ·rw [if_neg (fun h => h1 h.1), decide_eq_true hi, decide_eq_false (show ¬ i ≥ s from h1)];simp
theorem qkl (x c s : Nat) : qc4 x c s < 2 ^ 64 := BitVec.isLt _
theorem qg6 (x c s t : Nat) (hc : c < 256) (ht : t + 8 ≤ 64) (h : s = t ∨ s + 8 ≤ t ∨ t + 8 ≤ s) : qc4 x c s / 2 ^ t % 2 ^ 8 = if s = t then c else x / 2 ^ t % 2 ^ 8 := by
 apply Nat.eq_of_testBit_eq;intro j;rw [Nat.testBit_mod_two_pow, Nat.testBit_div_two_pow];by_cases hj : j < 8
 ·rw [decide_eq_true hj, Bool.true_and, qh9 x c s _ hc (by omega)];by_cases e : s = t
  ·rw [if_pos e, if_pos (by omega), show j + t - s = j from by omega]
  ·rw [if_neg e, if_neg (by omega), Nat.testBit_mod_two_pow, Nat.testBit_div_two_pow, decide_eq_true hj, Bool.true_and]
 ·rw [decide_eq_false hj, Bool.false_and];split
  ·exact (Nat.testBit_lt_two_pow (Nat.lt_of_lt_of_le hc (Nat.pow_le_pow_right (n := 2) (i := 8) (by decide) (by omega)))).symm
  ·rw [Nat.testBit_mod_two_pow, decide_eq_false hj, Bool.false_and]
def qba (x c s : Int) : Int := Go.bits .or .u64 (Go.bits .andNot .u64 x (shl .u64 255 s)) (shl .u64 (IntKind.u64.wrap c) s)
theorem qj0 (x c s : Nat) (hx : x < 2 ^ 64) (hc : c < 256) (hs : s + 8 ≤ 64) : qba x c s = (qc4 x c s : Nat) := by
 have e1 : shl .u64 255 (s : Int) = ((255 * 2 ^ s : Nat) : Int) := by have h1 : (255 * 2 ^ s : Nat) < 2 ^ 64 := Nat.lt_of_lt_of_le (Nat.mul_lt_mul_of_pos_right (show 255 < 2 ^ 8 by decide) (Nat.two_pow_pos s)) (by rw [← Nat.pow_add]; exact Nat.pow_le_pow_right (by decide) (by omega));unfold shl;rw [Int.toNat_natCast, show min s IntKind.u64.bits = s from Nat.min_eq_left (by show s ≤ 64; omega), show (255 : Int) * 2 ^ s = ((255 * 2 ^ s : Nat) : Int) from by rw [Int.natCast_mul, Int.natCast_pow]; rfl, mt _ (Int.natCast_nonneg _) (by exact_mod_cast h1)]
 have e2 : shl .u64 (IntKind.u64.wrap (c : Int)) (s : Int) = ((c * 2 ^ s : Nat) : Int) := by have h1 : (c * 2 ^ s : Nat) < 2 ^ 64 := Nat.lt_of_lt_of_le (Nat.mul_lt_mul_of_pos_right (show c < 2 ^ 8 by omega) (Nat.two_pow_pos s)) (by rw [← Nat.pow_add]; exact Nat.pow_le_pow_right (by decide) (by omega));unfold shl;rw [mt (c : Int) (by omega) (by omega), Int.toNat_natCast, show min s IntKind.u64.bits = s from Nat.min_eq_left (by show s ≤ 64; omega), show (c : Int) * 2 ^ s = ((c * 2 ^ s : Nat) : Int) from by rw [Int.natCast_mul, Int.natCast_pow]; rfl, mt _ (Int.natCast_nonneg _) (by exact_mod_cast h1)]
 unfold qba;rw [e1, e2];have hb : ∀ a b : Nat, b < 2 ^ 64 → Go.bits .andNot .u64 (a : Int) (b : Int) = (((BitVec.ofNat 64 a &&& ~~~ BitVec.ofNat 64 b).toNat : Nat) : Int) := fun a b _ => by show IntKind.u64.wrap _ = _;rw [mt _ (by omega) (by exact_mod_cast BitVec.isLt _)];simp only [BitVec.ofInt_natCast];rfl
 have ho : ∀ a b : Nat, Go.bits .or .u64 (a : Int) (b : Int) = (((BitVec.ofNat 64 a ||| BitVec.ofNat 64 b).toNat : Nat) : Int) := fun a b => by show IntKind.u64.wrap _ = _;rw [mt _ (by omega) (by exact_mod_cast BitVec.isLt _)];simp only [BitVec.ofInt_natCast];rfl
 rw [hb _ _ (Nat.lt_of_lt_of_le (Nat.mul_lt_mul_of_pos_right (show 255 < 2 ^ 8 by decide) (Nat.two_pow_pos s)) (by rw [← Nat.pow_add]; exact Nat.pow_le_pow_right (by decide) (by omega))), ho];unfold qc4;rw [BitVec.ofNat_toNat, BitVec.setWidth_eq]
def qi7 (v : List Int) (i : Int) : Int := shr .u64 (rd v (i / 8)) (i % 8 * 8) % 256
theorem qjk (x : Int) {s : Int} (h : 0 ≤ s ∧ s ≤ 64) : shr .u64 x s = x / 2 ^ s.toNat := by
 unfold shr;rw [show min s.toNat IntKind.u64.bits = s.toNat from Nat.min_eq_left (by show s.toNat ≤ 64; omega)]
theorem xd {x c : Int} (hx : 0 ≤ x ∧ x ≤ 18446744073709551615) (hc : 0 ≤ c ∧ c ≤ 255) {i j : Int} (hi : 0 ≤ i ∧ i < 8) (hj : 0 ≤ j ∧ j < 8) : (0 ≤ qba x c (i * 8) ∧ qba x c (i * 8) ≤ 18446744073709551615) ∧ shr .u64 (qba x c (i * 8)) (j * 8) % 256 = if i = j then c else shr .u64 x (j * 8) % 256 := by
 obtain ⟨X, rfl⟩ := Int.eq_ofNat_of_zero_le hx.1;obtain ⟨C, rfl⟩ := Int.eq_ofNat_of_zero_le hc.1;obtain ⟨I, rfl⟩ := Int.eq_ofNat_of_zero_le hi.1;obtain ⟨J, rfl⟩ := Int.eq_ofNat_of_zero_le hj.1;have e : ((I : Int) * 8) = ((I * 8 : Nat) : Int) := by omega
 have e2 : ((J : Int) * 8) = ((J * 8 : Nat) : Int) := by omega
 rw [e, qj0 X C (I * 8) (by omega) (by omega) (by omega), qjk _ (by omega), qjk _ (by omega), e2, Int.toNat_natCast];have hb := qg6 X C (I * 8) (J * 8) (by omega) (by omega) (by omega);have hl := qkl X C (I * 8);refine ⟨by omega, ?_⟩;have h1 : ((qc4 X C (I * 8) : Nat) : Int) / 2 ^ (J * 8) % 256 = ((qc4 X C (I * 8) / 2 ^ (J * 8) % 2 ^ 8 : Nat) : Int) := by rw [Int.natCast_emod, Int.natCast_ediv, Int.natCast_pow]; rfl
 have h2 : ((X : Nat) : Int) / 2 ^ (J * 8) % 256 = ((X / 2 ^ (J * 8) % 2 ^ 8 : Nat) : Int) := by rw [Int.natCast_emod, Int.natCast_ediv, Int.natCast_pow]; rfl
 rw [h1, h2, hb];by_cases h : I = J
 ·rw [if_pos (by omega), if_pos (by omega)]
 ·rw [if_neg (by omega), if_neg (by omega)]
theorem om (pre suf : List S116) (x : S116) : aa (pre ++ x :: suf) (pre.length : Int) = x := by
 unfold aa;rw [List.getD_eq_getElem?_getD, Int.toNat_natCast, List.getElem?_append_right (by omega)];simp
theorem th {l : List S116} {j : Int} (h0 : 0 ≤ j) (h1 : j < l.length) : ∃ h : j.toNat < l.length, aa l j = l[j.toNat]'h := by
 refine ⟨by omega, ?_⟩;unfold aa;rw [List.getD_eq_getElem?_getD, List.getElem?_eq_getElem (by omega)];rfl
theorem sx {l : List S116} {j : Int} (h0 : 0 ≤ j) (h1 : j < l.length) : aa l j ∈ l := by
 obtain ⟨h, e⟩ := th h0 h1;rw [e];exact List.getElem_mem h
def gc (words : Int) : Int → Bool → List S116 → Prop
 | a, _, [] => a = words
 | a, fr, b :: l => b.f0 = a ∧ 2 ≤ b.f1 ∧ b.f1 ≤ 512 ∧ b.f1 ≤ words - a ∧ (fr = true → b.f2 = true) ∧ gc words (a + b.f1) (!b.f2) l
def pj (words : Int) : Prop := 8 ≤ words ∧ words ≤ 512 ∧ words % 8 = 0
instance (words : Int) : Decidable (pj words) := by unfold pj; infer_instance
def mj (l : List S116) (words : Int) : Prop := pj words ∧ gc words 0 false l
theorem fq {words : Int} {l : List S116} : ∀ {a : Int} {fr : Bool}, gc words a fr l → ∀ b ∈ l, a ≤ b.f0 ∧ 2 ≤ b.f1 ∧ b.f1 ≤ 512 ∧ b.f0 + b.f1 ≤ words := by
 induction l with
 | nil => exact fun _ b hb => absurd hb (by simp)
 | cons c l ih =>
  intro a fr h b hb;obtain ⟨h0, h1, h2, h3, h4, h5⟩ := h;rcases List.mem_cons.1 hb with hb | hb
  ·subst hb; omega
  ·have := ih h5 b hb; omega
theorem wh {words : Int} {l : List S116} : ∀ {a : Int} {fr : Bool}, gc words a fr l → l.Pairwise (fun b c => b.f0 + b.f1 ≤ c.f0) := by
 induction l with
 | nil => exact fun _ => List.Pairwise.nil
 | cons c l ih =>
  intro a fr h;obtain ⟨h0, h1, h2, h3, h4, h5⟩ := h;refine List.pairwise_cons.2 ⟨fun b hb => ?_, ih h5⟩;have := fq h5 b hb;omega
theorem qbt {words : Int} {l : List S116} : ∀ {a : Int} {fr : Bool}, gc words a fr l → a + 2 * l.length ≤ words := by
 induction l with
 | nil => intro a fr h; have : a = words := h; simp; omega
 | cons c l ih =>
  intro a fr h;obtain ⟨h0, h1, h2, h3, h4, h5⟩ := h;have := ih h5;simp; omega
theorem sf {words : Int} {l : List S116} (h : gc words 0 false l) {j : Int} (h0 : 0 ≤ j) (h1 : j < l.length) :
  0 ≤ (aa l j).f0 ∧ 2 ≤ (aa l j).f1 ∧ (aa l j).f1 ≤ 512 ∧ (aa l j).f0 + (aa l j).f1 ≤ words := fq h _ (sx h0 h1)
theorem qcz {words : Int} {l : List S116} (h : gc words 0 false l) {i j : Int} (h0 : 0 ≤ i) (h1 : i < j) (h2 : j < l.length) : (aa l i).f0 + (aa l i).f1 ≤ (aa l j).f0 := by
 obtain ⟨hi, ei⟩ := th (l := l) h0 (by omega);obtain ⟨hj, ej⟩ := th (l := l) (j := j) (by omega) h2;rw [ei, ej];exact List.pairwise_iff_getElem.1 (wh h) _ _ hi hj (by omega)
theorem qap (n : Int) : d7.f n = some (decide (8 ≤ n ∧ n ≤ 512 ∧ n % 8 = 0)) := by
 unfold d7.f;by_cases h1 : n ≥ 8
 ·rw [if_pos h1];by_cases h2 : n ≤ 512
  ·rw [if_pos h2, zf (by omega)];congr 1;rw [Bool.eq_iff_iff, beq_iff_eq, decide_eq_true_iff];exact ⟨fun h => ⟨h1, h2, h⟩, fun h => h.2.2⟩
  ·rw [if_neg h2, decide_eq_false (by omega)]
 ·rw [if_neg h1, decide_eq_false (by omega)]
theorem nw (n : Int) : ci.f n = some (decide (2 ≤ n ∧ n ≤ 512)) := by
 unfold ci.f;by_cases h2 : n ≥ 2
 ·rw [if_pos h2]; congr 1; rw [Bool.eq_iff_iff]; simp only [decide_eq_true_iff]; omega
 ·rw [if_neg h2, decide_eq_false (by omega)]
theorem qlg {words : Int} (hw : words ≤ 100000) (suf : List S116) : ∀ (pre : List S116) (a : Int) (fr : Bool), 0 ≤ a → a ≤ words → (pre ++ suf).length ≤ 100000 → ∃ b, Ev (fun k => bq.l0 k words a fr (pre ++ suf) ((pre ++ suf).length : Int) (pre.length : Int)) b ∧ (b = true ↔ gc words a fr suf) := by
 induction suf with
 | nil =>
  intro pre a fr h0 h1 hl;refine ⟨a == words, Ev.step (fun k => by rw [bq.l0]) (br (by simp) (Ev.now _)), ?_⟩;rw [beq_iff_eq]; exact Iff.rfl
 | cons x suf ih =>
  intro pre a fr h0 h1 hl;have e : pre ++ x :: suf = (pre ++ [x]) ++ suf := by simp
  have hlen2 : ((pre ++ [x]).length : Int) = (pre.length : Int) + 1 := by simp
  have hlt : (pre.length : Int) < ((pre ++ x :: suf).length : Int) := by simp; omega
  have w1 : wrap64 ((pre.length : Int) + 1) = (pre.length : Int) + 1 := w64 (by simp at hl; omega);have w2 : wrap64 (words - a) = words - a := w64 (by omega);by_cases c1 : x.f0 = a
  ·by_cases c2 : 2 ≤ x.f1 ∧ x.f1 ≤ 512
   ·by_cases c4 : fr = true ∧ x.f2 = false
    ·refine ⟨false, Ev.step (fun k => by rw [bq.l0]) ?_, ⟨fun h => (by cases h), fun h => by have := h.2.2.2.2.1 c4.1; rw [c4.2] at this; cases this⟩⟩;rw [om];exact aj hlt (aj (by omega) (aj hlt (aj c1 (cy (nw _) (aj (by simp [c2]) (aj c4.1 (br (by rw [c4.2]; decide) (Ev.now _))))))))
    ·by_cases c3 : x.f1 > words - a
     ·refine ⟨false, Ev.step (fun k => by rw [bq.l0]) ?_, ⟨fun h => (by cases h), fun h => by have := h.2.2.2.1; omega⟩⟩;rw [om, w2];refine aj hlt (aj (by omega) (aj hlt (aj c1 (cy (nw _) (aj (by simp [c2]) ?_)))));exact jl (fun _ => jl (fun _ => aj c3 (Ev.now _)) (fun _ => Ev.now _)) (fun _ => aj c3 (Ev.now _))
     ·have w3 : wrap64 (a + x.f1) = a + x.f1 := w64 (by omega);obtain ⟨b, hb, hi⟩ := ih (pre ++ [x]) (a + x.f1) (!x.f2) (by omega) (by omega) (by rw [← e]; exact hl);rw [hlen2, ← e] at hb;refine ⟨b, Ev.step (fun k => by rw [bq.l0]) ?_, ?_⟩
      ·rw [om, w2, w1, w3];refine aj hlt (aj (by omega) (aj hlt (aj c1 (cy (nw _) (aj (by simp [c2]) ?_)))));refine jl (fun hf => ?_) (fun _ => br c3 hb);refine aj ?_ (br c3 hb);cases hx : x.f2 with
       | true => rfl
       | false => exact absurd ⟨hf, hx⟩ c4
      ·rw [hi];constructor
       ·intro h;exact ⟨c1, c2.1, c2.2, by omega, fun hf => by
         cases hx : x.f2 with
         | true => rfl
         | false => exact absurd ⟨hf, hx⟩ c4, h⟩
       ·exact fun h => h.2.2.2.2.2
   ·refine ⟨false, Ev.step (fun k => by rw [bq.l0]) ?_, ⟨fun h => (by cases h), fun h => absurd ⟨h.2.1, h.2.2.1⟩ c2⟩⟩;rw [om];exact aj hlt (aj (by omega) (aj hlt (aj c1 (cy (nw _) (br (by simp; omega) (Ev.now _))))))
  ·refine ⟨false, Ev.step (fun k => by rw [bq.l0]) ?_, ⟨fun h => (by cases h), fun h => absurd h.1 c1⟩⟩;rw [om];exact aj hlt (aj (by omega) (aj hlt (br c1 (Ev.now _))))
theorem qfo {l : List S116} (words : Int) (hl : l.length ≤ 100000) : ∃ b, Ev (fun k => bq.f k l words) b ∧ (b = true ↔ mj l words) := by
 unfold bq.f;by_cases h : 8 ≤ words ∧ words ≤ 512 ∧ words % 8 = 0
 ·obtain ⟨b, hb, hi⟩ := qlg (words := words) (by omega) l [] 0 false (by omega) (by omega) hl;refine ⟨b, cy (qap words) (aj (by simp [h]) hb), hi.trans ⟨fun hh => ⟨h, hh⟩, fun hh => hh.2⟩⟩
 ·exact ⟨false, cy (qap words) (br (by simpa using h) (Ev.now _)), ⟨fun hh => (by cases hh), fun hh => absurd hh.1 h⟩⟩
theorem qdq {l : List S116} {words : Int} (hl : l.length ≤ 100000) (h : mj l words) : Ev (fun k => bq.f k l words) true := by
 obtain ⟨b, hb, hi⟩ := qfo words hl
 rwa [hi.2 h] at hb
theorem qfy {a b : S116} (h0 : a.f0 = b.f0) (h1 : a.f1 = b.f1) (h2 : a.f2 = b.f2) : a = b := by
 cases a; cases b; simp at h0 h1 h2; simp [h0, h1, h2]
theorem qc6 {w : Int} (h : 0 ≤ w ∧ w ≤ 18446744073709551615) : jx.f w = if 2 ≤ w / 2 ∧ w / 2 ≤ 512 then some (w / 2, w % 2 == 1, true) else some (0, false, false) := by
 unfold jx.f ci.f;rw [qjt h.1 h.2, w64 (by omega)];by_cases h1 : w / 2 > 512
 ·rw [if_pos h1, if_neg (by omega)]
 ·rw [if_neg h1];by_cases h2 : w / 2 ≥ 2
  ·rw [if_pos h2, if_pos (by omega)];simp only [Option.bind_some];rw [if_pos (by simp; omega)]
  ·rw [if_neg h2, if_neg (by omega)]; rfl
theorem vt (n : Int) (u : Bool) : fd.f n u = some (if 2 ≤ n ∧ n ≤ 512 then 2 * n + (if u then 1 else 0) else 0) := by
 unfold fd.f ci.f;by_cases h : 2 ≤ n ∧ n ≤ 512
 ·rw [if_pos (by omega), if_pos h];simp only [Option.bind_some];rw [if_pos (by simp; omega)];have e : IntKind.u64.wrap (IntKind.u64.wrap n * 2) = 2 * n := by rw [qa9, qa9]; omega
  rw [e];cases u
  ·simp
  ·simp only [if_true]; rw [qk4 (by omega) (by omega) (by omega)]
 ·rw [if_neg h];by_cases h2 : n ≥ 2
  ·rw [if_pos h2]; simp only [Option.bind_some]; rw [if_neg (by simp; omega)]
  ·rw [if_neg h2]; rfl
def Wds (w : List Int) : Prop := w.length ≤ 2000 ∧ ∀ j : Int, 0 ≤ rd w j ∧ rd w j ≤ 18446744073709551615
def ob (w : List Int) : Int → List S116 → Prop
 | a, [] => (w.length : Int) ≤ a
 | a, b :: l => a < w.length ∧ b.f0 = a ∧ 2 ≤ rd w a / 2 ∧ rd w a / 2 ≤ 512 ∧ b.f1 = rd w a / 2 ∧ b.f2 = (rd w a % 2 == 1) ∧ ob w (a + b.f1) l
theorem qgv {w : List Int} {l : List S116} : ∀ {a : Int} {m : List S116}, ob w a l → ob w a m → l = m := by
 induction l with
 | nil =>
  intro a m h h';cases m with
  | nil => rfl
  | cons b m => have h1 : (w.length : Int) ≤ a := h; have := h'.1; omega
 | cons b l ih =>
  intro a m h h';cases m with
  | nil => have h1 : (w.length : Int) ≤ a := h'; have := h.1; omega
  | cons c m =>
   obtain ⟨a0, a1, a2, a3, a4, a5, a6⟩ := h;obtain ⟨b0, b1, b2, b3, b4, b5, b6⟩ := h';have e : b = c := qfy (by rw [a1, b1]) (by rw [a4, b4]) (by rw [a5, b5]);subst e;rw [ih a6 b6]
def yt (w : List Int) (r : List S116 × Bool) : Prop :=
 (ob w 0 r.1 ∧ mj r.1 w.length ∧ r.2 = true) ∨ ((∀ l, ob w 0 l → ¬ mj l w.length) ∧ r = ([], false))
theorem qe4 {w : List Int} {r r' : List S116 × Bool} (h : yt w r) (h' : yt w r') : r = r' := by
 rcases h with ⟨a, b, c⟩ | ⟨a, b⟩
 ·rcases h' with ⟨a', b', c'⟩ | ⟨a', b'⟩
  ·exact Prod.ext (qgv a a') (by rw [c, c'])
  ·exact absurd b (a' _ a)
 ·rcases h' with ⟨a', b', c'⟩ | ⟨a', b'⟩
  ·exact absurd b' (a _ a')
  ·rw [b, b']
theorem qg2 {w : List Int} (hw : Wds w) (d : Nat) : ∀ (acc : List S116) (a : Int), 0 ≤ a → (w.length : Int) ≤ a + d → a ≤ 3000 → (acc.length : Int) ≤ a → ∃ r, Ev (fun k => bi.l0 k w acc a) r ∧ ((∃ l, ob w a l ∧ mj (acc ++ l) w.length ∧ r = (acc ++ l, true)) ∨ ((∀ l, ob w a l → ¬ mj (acc ++ l) w.length) ∧ r = ([], false))) := by
 have hlen := hw.1;have fin : ∀ (acc : List S116) (a : Int), 0 ≤ a → (w.length : Int) ≤ a → a ≤ 3000 → (acc.length : Int) ≤ a →
   ∃ r, Ev (fun k => bi.l0 k w acc a) r ∧ ((∃ l, ob w a l ∧ mj (acc ++ l) w.length ∧ r = (acc ++ l, true)) ∨ ((∀ l, ob w a l → ¬ mj (acc ++ l) w.length) ∧ r = ([], false))) := by
  intro acc a h0 h1 h2 h3;obtain ⟨b, hb, hi⟩ := qfo (l := acc) (w.length : Int) (by omega);have pn : ∀ l, ob w a l → l = [] := fun l hl => by
   cases l with
   | nil => rfl
   | cons c l => have := hl.1; omega
  cases b with
  | true =>
   refine ⟨(acc, true), Ev.step (fun k => by rw [bi.l0]) ?_, Or.inl ⟨[], h1, by rw [List.append_nil]; exact hi.1 rfl, by rw [List.append_nil]⟩⟩;exact br (by omega) (ec hb (aj rfl (Ev.now _)))
  | false =>
   refine ⟨([], false), Ev.step (fun k => by rw [bi.l0]) ?_, Or.inr ⟨fun l hl hm => ?_, rfl⟩⟩
   ·exact br (by omega) (ec hb (br (by decide) (Ev.now _)))
   ·rw [pn l hl, List.append_nil] at hm;have := hi.2 hm;cases this
 induction d with
 | zero => intro acc a h0 h1; exact fin acc a h0 (by omega)
 | succ d ih =>
  intro acc a h0 h1 h2 h3;by_cases ha : (w.length : Int) ≤ a
  ·exact fin acc a h0 ha h2 h3
  ·have hr := hw.2 a;by_cases hp : 2 ≤ rd w a / 2 ∧ rd w a / 2 ≤ 512
   ·obtain ⟨r, hb, hi⟩ := ih (acc ++ [(⟨a, rd w a / 2, rd w a % 2 == 1⟩ : S116)]) (a + rd w a / 2) (by omega) (by omega) (by omega) (by simp; omega);refine ⟨r, Ev.step (fun k => by rw [bi.l0]) ?_, ?_⟩
    ·rw [qc6 hr, if_pos hp];refine aj (by omega) (aj h0 (cy rfl ?_));refine aj rfl (aj (by omega) ?_);rw [w64 (n := a + rd w a / 2) (by omega)];exact hb
    ·rcases hi with ⟨l, q1, q2, q3⟩ | ⟨q1, q2⟩
     ·refine Or.inl ⟨(⟨a, rd w a / 2, rd w a % 2 == 1⟩ : S116) :: l, ⟨by omega, rfl, hp.1, hp.2, rfl, rfl, q1⟩, ?_, ?_⟩
      ·rw [List.append_assoc] at q2; exact q2
      ·rw [q3, List.append_assoc]; rfl
     ·refine Or.inr ⟨fun l hl => ?_, q2⟩;cases l with
      | nil => have hl : (w.length : Int) ≤ a := hl; omega
      | cons b l =>
       obtain ⟨b0, b1, b2, b3, b4, b5, b6⟩ := hl;have e : b = (⟨a, rd w a / 2, rd w a % 2 == 1⟩ : S116) := qfy b1 b4 b5;rw [b4] at b6;have := q1 l b6;rw [List.append_assoc] at this;rw [e]; exact this
   ·refine ⟨([], false), Ev.step (fun k => by rw [bi.l0]) ?_, Or.inr ⟨fun l hl => ?_, rfl⟩⟩
    ·rw [qc6 hr, if_neg hp];exact aj (by omega) (aj h0 (cy rfl (br (by decide) (Ev.now _))))
    ·cases l with
     | nil => have hl : (w.length : Int) ≤ a := hl; omega
     | cons b l => exact absurd ⟨hl.2.2.1, hl.2.2.2.1⟩ hp
theorem qh1 {w : List Int} (hw : Wds w) : ∃ r, Ev (fun k => bi.f k w) r ∧ yt w r := by
 have hlen := hw.1;obtain ⟨r, h1, h2⟩ := qg2 hw w.length [] 0 (by omega) (by omega) (by omega) (by simp);refine ⟨r, h1, ?_⟩;rcases h2 with ⟨l, a, b, c⟩ | ⟨a, b⟩
 ·rw [c]; exact Or.inl ⟨a, b, rfl⟩
 ·exact Or.inr ⟨a, b⟩
theorem qei {w : List Int} {l : List S116} (hw : Wds w) (hp : ob w 0 l) (hm : mj l w.length) : Ev (fun k => bi.f k w) (l, true) := by
 obtain ⟨r, h1, h2⟩ := qh1 hw;have := qe4 h2 (Or.inl ⟨hp, hm, rfl⟩ : yt w (l, true))
 rwa [this] at h1
def p9 (b : S116) : Int := 2 * b.f1 + (if b.f2 = true then 1 else 0)
theorem ql7 (b : S116) : (p9 b / 2 = b.f1) ∧ ((p9 b % 2 == 1) = b.f2) := by
 unfold p9;cases b.f2
 ·rw [if_neg (by decide)]; exact ⟨by omega, by rw [beq_eq_false_iff_ne]; omega⟩
 ·rw [if_pos rfl]; exact ⟨by omega, by rw [beq_iff_eq]; omega⟩
theorem qiu {w : List Int} {l : List S116} : ∀ {a : Int} {fr : Bool}, gc w.length a fr l → (∀ b ∈ l, rd w b.f0 = p9 b) → ob w a l := by
 induction l with
 | nil => intro a fr h _; have h : a = w.length := h; show (w.length : Int) ≤ a; omega
 | cons b l ih =>
  intro a fr h hh;obtain ⟨h0, h1, h2, h3, h4, h5⟩ := h;have hb := hh b (by simp);rw [h0] at hb;have hr := ql7 b;exact ⟨by omega, h0, by rw [hb, hr.1]; exact h1, by rw [hb, hr.1]; exact h2, by rw [hb, hr.1], by rw [hb, hr.2], ih h5 (fun c hc => hh c (by simp [hc]))⟩
theorem qio (n : Int) : lz.f n = some (if pj n then (List.replicate n.toNat 0).set 0 (2 * n) else []) := by
 unfold lz.f;rw [qap];simp only [Option.bind_some];by_cases h : 8 ≤ n ∧ n ≤ 512 ∧ n % 8 = 0
 ·rw [if_pos (by simp [h]), if_pos (by omega), if_pos (by omega), if_pos (show pj n from h), vt, if_pos (by omega)];simp only [Option.bind_some];rw [if_pos (by simp; omega)];simp
 ·rw [if_neg (by simpa using h), if_neg (show ¬ pj n from h)]
def dh : List S116 → Int
 | [] => 0
 | b :: l => b.f1 + dh l
theorem qhy {words : Int} (suf : List S116) (pre : List S116) : ∀ {a : Int} {fr : Bool}, gc words a fr (pre ++ suf) → ∃ fr', gc words (a + dh pre) fr' suf := by
 induction pre with
 | nil => intro a fr h; exact ⟨fr, by show gc words (a + 0) fr suf; rw [Int.add_zero]; exact h⟩
 | cons b pre ih =>
  intro a fr h;obtain ⟨c0, c1, c2, c3, c4, c5⟩ := h;obtain ⟨fr', h'⟩ := ih c5;refine ⟨fr', ?_⟩;show gc words (a + (b.f1 + dh pre)) fr' suf;rw [← Int.add_assoc]; exact h'
theorem r9 {words : Int} (l : List S116) {a : Int} {fr : Bool} (h : gc words a fr l) : words = a + dh l := by
 obtain ⟨fr', h'⟩ := qhy [] l (by rw [List.append_nil]; exact h);have h' : a + dh l = words := h';omega
theorem qhf {l : List S116} {j : Int} (h0 : 0 ≤ j) (h1 : j + 1 < l.length) : ∃ pre x y suf, l = pre ++ x :: y :: suf ∧ (pre.length : Int) = j := by
 refine ⟨l.take j.toNat, l[j.toNat]'(by omega), l[j.toNat + 1]'(by omega), l.drop (j.toNat + 2), ?_, by rw [List.length_take]; omega⟩;rw [← List.drop_eq_getElem_cons (by omega), ← List.drop_eq_getElem_cons (by omega)];exact (List.take_append_drop _ _).symm
theorem qb7 {v : List Int} {i : Nat} {x : Int} (hv : Wds v) (h0 : 0 ≤ x) (h1 : x ≤ 18446744073709551615) : Wds (v.set i x) := by
 refine ⟨by rw [List.length_set]; exact hv.1, fun j => ?_⟩;by_cases hi : i < v.length
 ·rw [j9 x j hi];by_cases h : j.toNat = i
  ·rw [if_pos h]; exact ⟨h0, h1⟩
  ·rw [if_neg h]; exact hv.2 j
 ·rw [List.set_eq_of_length_le (by omega)]; exact hv.2 j
def nf : Bool → List S116 → Bool
 | fr, [] => fr
 | _, b :: l => nf (!b.f2) l
theorem qe0 (P R : List S116) : ∀ fr, nf fr (P ++ R) = nf (nf fr P) R := by
 induction P with
 | nil => intro fr; rfl
 | cons b P ih => intro fr; exact ih _
theorem n4 (P R : List S116) : dh (P ++ R) = dh P + dh R := by
 induction P with
 | nil => show dh R = 0 + dh R; omega
 | cons b P ih => show b.f1 + dh (P ++ R) = (b.f1 + dh P) + dh R; rw [ih]; omega
theorem oo {words : Int} (P R : List S116) : ∀ {a : Int} {fr : Bool}, gc words a fr (P ++ R) → gc words (a + dh P) (nf fr P) R := by
 induction P with
 | nil => intro a fr h; show gc words (a + 0) fr R; rw [Int.add_zero]; exact h
 | cons b P ih =>
  intro a fr h;obtain ⟨h0, h1, h2, h3, h4, h5⟩ := h;have := ih h5;show gc words (a + (b.f1 + dh P)) (nf (!b.f2) P) R;rw [← Int.add_assoc]; exact this
theorem qeb {words : Int} (P R R' : List S116) : ∀ {a : Int} {fr : Bool}, gc words a fr (P ++ R) → gc words (a + dh P) (nf fr P) R' → gc words a fr (P ++ R') := by
 induction P with
 | nil => intro a fr _ h; have h : gc words (a + 0) fr R' := h; rw [Int.add_zero] at h; exact h
 | cons b P ih =>
  intro a fr h h';obtain ⟨h0, h1, h2, h3, h4, h5⟩ := h;have h' : gc words (a + (b.f1 + dh P)) (nf (!b.f2) P) R' := h';rw [← Int.add_assoc] at h';exact ⟨h0, h1, h2, h3, h4, ih h5 h'⟩
theorem qdw {words : Int} {Q : List S116} {a : Int} {fr : Bool} (fr2 : Bool) (h : gc words a fr Q) (hq : ∀ q Q', Q = q :: Q' → q.f2 = true) : gc words a fr2 Q := by
 cases Q with
 | nil => exact h
 | cons q Q =>
  obtain ⟨h0, h1, h2, h3, h4, h5⟩ := h;exact ⟨h0, h1, h2, h3, fun _ => hq q Q rfl, h5⟩
theorem yu {words : Int} (P R : List S116) {a : Int} {fr : Bool} (h : gc words a fr (P ++ R)) : 2 * (P.length : Int) ≤ dh P ∧ a + dh P + 2 * R.length ≤ words := by
 constructor
 ·have : ∀ b ∈ P, 2 ≤ b.f1 := fun b hb => (fq h b (List.mem_append_left _ hb)).2.1;clear h
  induction P with
  | nil => show 2 * ((0 : Nat) : Int) ≤ 0; omega
  | cons b P ih =>
   have h1 := ih (fun c hc => this c (List.mem_cons_of_mem _ hc));have h2 := this b List.mem_cons_self;show 2 * (((P.length + 1 : Nat)) : Int) ≤ b.f1 + dh P;omega
 ·exact qbt (oo P R h)
theorem qes {words : Int} {P M Q : List S116} {x : S116} {a : Int} {fr : Bool} (hw : words ≤ 512) (ha : 0 ≤ a) (h : gc words a fr (P ++ (x :: M) ++ Q)) (hp : nf fr P = false) (hq : ∀ q Q', Q = q :: Q' → q.f2 = true) : x.f0 = a + dh P ∧ gc words a fr (P ++ (⟨x.f0, dh (x :: M), false⟩ : S116) :: Q) := by
 rw [List.append_assoc] at h;have h1 := oo P _ h;rw [hp] at h1;have n1 := yu P _ h;have n2 := yu (x :: M) Q h1;have e0 : x.f0 = a + dh P := h1.1;refine ⟨e0, qeb P _ _ h ?_⟩;rw [hp];simp only [List.length_cons] at n2;refine ⟨e0, by show 2 ≤ dh (x :: M); omega, by show dh (x :: M) ≤ 512; omega, by show dh (x :: M) ≤ words - (a + dh P); omega, (fun hf => nomatch hf), ?_⟩;exact qdw true (oo (x :: M) Q h1) hq
def IsB (l : List S116) : Prop := mj l (dh l)
theorem qi4 {l : List S116} {w : Int} (h : mj l w) : w = dh l := by have := r9 l h.2; omega
theorem qgu (l : List S116) (hl : l.length ≤ 100000) (suf : List S116) : ∀ pre : List S116, l = pre ++ suf → (∀ b ∈ pre, 2 ≤ b.f1 ∧ b.f1 ≤ 512) → 0 ≤ dh pre → dh pre ≤ 1024 → ∃ t, Ev (fun k => bu.l0 k (dh pre) l (l.length : Int) (pre.length : Int)) t ∧ ((∃ w, mj l w) → t = dh l) ∧ (t = dh l ∨ t = 0) ∧ ((∀ b ∈ l, 2 ≤ b.f1 ∧ b.f1 ≤ 512) → dh l ≤ 512 → t = dh l) := by
 induction suf with
 | nil =>
  intro pre e hp h0 h1;rw [List.append_nil] at e;subst e;exact ⟨dh l, Ev.step (fun k => by rw [bu.l0]) (br (by simp) (Ev.now _)), fun _ => rfl, .inl rfl, fun _ _ => rfl⟩
 | cons x suf ih =>
  intro pre e hp h0 h1;have hlt : (pre.length : Int) < (l.length : Int) := by rw [e]; simp; omega
  have ex : aa l (pre.length : Int) = x := by rw [e]; exact om pre suf x
  by_cases c1 : 2 ≤ x.f1 ∧ x.f1 ≤ 512
  ·by_cases c2 : dh pre > 512
   ·have big : (∀ b ∈ l, 2 ≤ b.f1 ∧ b.f1 ≤ 512) → ¬ dh l ≤ 512 := by
     intro hb hs;rw [e, n4] at hs;have : ∀ m : List S116, (∀ b ∈ m, 2 ≤ b.f1 ∧ b.f1 ≤ 512) → 0 ≤ dh m := by
      intro m
      induction m with
      | nil => intro _; exact Int.le_refl _
      | cons c m ihm => intro hc; have q1 := hc c List.mem_cons_self; have q2 := ihm (fun d hd => hc d (List.mem_cons_of_mem _ hd)); show 0 ≤ c.f1 + dh m; omega
     have q := this (x :: suf) (fun b hb' => hb b (by rw [e]; exact List.mem_append_right _ hb'));omega
    refine ⟨0, Ev.step (fun k => by rw [bu.l0]) ?_, fun ⟨w, hw⟩ => ?_, .inr rfl, fun hb hs => absurd hs (big hb)⟩
    ·rw [ex];exact aj hlt (aj (by omega) (aj hlt (cy (nw _) (aj (by simp [c1]) (aj c2 (Ev.now _))))))
    ·have ht := r9 l hw.2;have hw1 := hw.1;unfold pj at hw1;exact absurd (by omega : dh l ≤ 512) (big (fun b hb => ⟨(fq hw.2 b hb).2.1, (fq hw.2 b hb).2.2.1⟩))
   ·obtain ⟨t, ht, hi⟩ := ih (pre ++ [x]) (by rw [e]; simp) (by
     intro b hb;rcases List.mem_append.1 hb with hb | hb
     ·exact hp b hb
     ·rw [List.mem_singleton.1 hb]; exact c1) (by rw [n4]; show 0 ≤ dh pre + (x.f1 + 0); omega) (by rw [n4]; show dh pre + (x.f1 + 0) ≤ 1024; omega)
    have es : dh (pre ++ [x]) = dh pre + x.f1 := by rw [n4]; show dh pre + (x.f1 + 0) = _; omega
    refine ⟨t, Ev.step (fun k => by rw [bu.l0]) ?_, hi⟩;rw [ex, w64 (n := dh pre + x.f1) (by omega), w64 (n := (pre.length : Int) + 1) (by omega)];refine aj hlt (aj (by omega) (aj hlt (cy (nw _) (aj (by simp [c1]) (br c2 ?_)))));rw [es] at ht;simpa using ht
  ·refine ⟨0, Ev.step (fun k => by rw [bu.l0]) ?_, fun ⟨w, hw⟩ => ?_, .inr rfl, fun hb _ => absurd (hb x (by rw [e]; simp)) c1⟩
   ·rw [ex];exact aj hlt (aj (by omega) (aj hlt (cy (nw _) (br (by simp; omega) (Ev.now _)))))
   ·have := fq hw.2 x (by rw [e]; simp);omega
theorem qbj {l : List S116} (hl : l.length ≤ 100000) : ∃ t, Ev (fun k => bu.f k l) t ∧ ((∃ w, mj l w) → t = dh l) ∧ (t = dh l ∨ t = 0) ∧ ((∀ b ∈ l, 2 ≤ b.f1 ∧ b.f1 ≤ 512) → dh l ≤ 512 → t = dh l) :=
 qgu l hl l [] rfl (fun b hb => nomatch hb) (Int.le_refl _) (by show (0 : Int) ≤ 1024; omega)
theorem qfk {l : List S116} (hl : l.length ≤ 100000) (h : ∀ b ∈ l, 2 ≤ b.f1 ∧ b.f1 ≤ 512) (hs : dh l ≤ 512) : Ev (fun k => bu.f k l) (dh l) := by
 obtain ⟨t, ht, _, _, h3⟩ := qbj hl
 rwa [h3 h hs] at ht
def fa (l : List S116) (i : Int) : Int := if i > 0 ∧ (aa l (i - 1)).f2 = false then i - 1 else i
def mTo (l : List S116) (i : Int) : Int := if i + 1 < l.length ∧ (aa l (i + 1)).f2 = false then i + 2 else i + 1
def Can (l : List S116) (i : Int) : Prop := IsB l ∧ 0 ≤ i ∧ i < l.length ∧ (aa l i).f2 = true
theorem qef {l : List S116} {i : Int} (hl : l.length ≤ 100000) (h : Can l i) : Ev (fun k => bk.f k l i) (fa l i, mTo l i, true) := by
 obtain ⟨h1, h2, h3, h4⟩ := h;unfold bk.f;obtain ⟨t, ht, hi, _⟩ := qbj hl;rw [hi ⟨_, h1⟩] at ht;refine ec ht (ec (qdq hl h1) (aj rfl (br (by omega) (br (by omega) (aj h2 (aj h3 ?_))))));rw [h4];refine Ev.step (fun k => by rw [bk.j0]) ?_;refine br (by decide) ?_;rw [w64 (n := i - 1) (by omega), w64 (n := i + 1) (by omega)];have go : ∀ b : Bool, (b = true ↔ (i > 0 ∧ (aa l (i - 1)).f2 = false)) → Ev (fun k => bk.j1 k l i (i + 1) b) (fa l i, mTo l i, true) := by
  intro b hb;refine Ev.step (fun k => by rw [bk.j1]) ?_;rw [w64 (n := i - 1) (by omega), w64 (n := i + 1 + 1) (by omega)];unfold fa mTo;refine jl (fun c => ?_) (fun c => ?_)
  ·rw [if_pos (hb.1 c)];refine jl (fun d => aj (by omega) (jl (fun e => ?_) (fun e => ?_))) (fun d => ?_)
   ·rw [if_neg (by simp [e])]; exact Ev.now _
   ·rw [if_pos ⟨d, by simpa using e⟩, show i + 1 + 1 = i + 2 from by omega]; exact Ev.now _
   ·rw [if_neg (fun hh => d hh.1)]; exact Ev.now _
  ·rw [if_neg (fun hh => c (hb.2 hh))];refine jl (fun d => aj (by omega) (jl (fun e => ?_) (fun e => ?_))) (fun d => ?_)
   ·rw [if_neg (by simp [e])]; exact Ev.now _
   ·rw [if_pos ⟨d, by simpa using e⟩, show i + 1 + 1 = i + 2 from by omega]; exact Ev.now _
   ·rw [if_neg (fun hh => d hh.1)]; exact Ev.now _
 refine jl (fun c => aj (by omega) (aj (by omega) (go _ ?_))) (fun c => go _ ?_)
 ·simp [c]
 ·simp [c]
theorem tr {l : List S116} {i : Int} (h : 0 ≤ i ∧ i < l.length) : 0 ≤ fa l i ∧ fa l i ≤ i ∧ i < mTo l i ∧ mTo l i ≤ l.length := by
 unfold fa mTo;refine ⟨?_, ?_, ?_, ?_⟩
 ·split <;> omega
 ·split <;> omega
 ·split <;> omega
 ·split <;> omega
def mP (l : List S116) (i : Int) : List S116 := l.take (fa l i).toNat
def mM (l : List S116) (i : Int) : List S116 := (l.take (mTo l i).toNat).drop (fa l i).toNat
def mQ (l : List S116) (i : Int) : List S116 := l.drop (mTo l i).toNat
theorem yq {l : List S116} {i : Int} (h : 0 ≤ i ∧ i < l.length) : l = mP l i ++ mM l i ++ mQ l i := by
 have hf := tr h;unfold mP mM mQ;rw [show l.take (fa l i).toNat = (l.take (mTo l i).toNat).take (fa l i).toNat from by rw [List.take_take, Nat.min_eq_left (by omega)], List.take_append_drop, List.take_append_drop]
def mrg (l : List S116) (i : Int) : List S116 := mP l i ++ [⟨(aa l (fa l i)).f0, dh (mM l i), false⟩] ++ mQ l i
theorem qj3 {l : List S116} {i : Int} (h : IsB l) (hi : 0 ≤ i ∧ i < l.length) : (∀ b ∈ mM l i, 2 ≤ b.f1 ∧ b.f1 ≤ 512) ∧ dh (mM l i) ≤ 512 := by
 have e := yq hi;have hc := h.2;have hw := h.1;unfold pj at hw;constructor
 ·intro b hb;have := fq hc b (by rw [e]; exact List.mem_append_left _ (List.mem_append_right _ hb));omega
 ·generalize hs : dh l = w at hc hw;rw [e, List.append_assoc] at hc;have n1 := yu _ _ hc;have n2 := yu _ _ (oo _ _ hc);omega
theorem qmn {l : List S116} {i : Int} (hi : 0 ≤ i ∧ i < l.length) : (mM l i).length ≤ 3 := by
 unfold mM;rw [List.length_drop, List.length_take];unfold fa mTo;split <;> split <;> omega
def l7 (n : Int) (u : Bool) : Int := if 2 ≤ n ∧ n ≤ 512 then 2 * n + (if u then 1 else 0) else 0
theorem qhs {l : List S116} {i : Int} (hl : l.length ≤ 1000) (h : Can l i) : Ev (fun k => e8.f k l i) ((aa l (fa l i)).f0, l7 (dh (mM l i)) false, true) := by
 have hi : 0 ≤ i ∧ i < l.length := ⟨h.2.1, h.2.2.1⟩;have ft := tr hi;have g := qj3 h.1 hi;have n := qmn hi;unfold e8.f;refine ec (qef (by omega) h) (aj rfl (aj ft.1 (aj (by show fa l i < _; omega) (aj (by show fa l i ≤ mTo l i; omega) (aj ft.2.2.2 ?_)))));exact ec (qfk (l := mM l i) (by omega) g.1 g.2) (cy (vt _ _) (Ev.now _))
theorem qdz {l : List S116} {n : Int} {q : S116} {Q : List S116} (_h0 : 0 ≤ n) (h : l.drop n.toNat = q :: Q) : aa l n = q ∧ n < l.length := by
 have h1 := congrArg List.head? h;rw [List.head?_drop, List.head?_cons] at h1;have h2 : n.toNat < l.length := by
  rcases Nat.lt_or_ge n.toNat l.length with h | h
  ·exact h
  ·rw [List.getElem?_eq_none h] at h1; cases h1
 refine ⟨?_, by omega⟩;unfold aa;rw [List.getD_eq_getElem?_getD, h1];rfl
theorem qb1 {l : List S116} {words j : Int} (h : gc words 0 false l) (h0 : 0 ≤ j) (h1 : j + 1 < l.length) (hf : (aa l j).f2 = false) : (aa l (j + 1)).f2 = true := by
 obtain ⟨pre, x, y, suf, hl, hp⟩ := qhf h0 h1;rw [hl] at h;have hs := oo pre _ h;have ex : aa l j = x := by rw [hl, ← hp]; exact om pre _ x
 have ey : aa l (j + 1) = y := by rw [hl, ← hp, show pre ++ x :: y :: suf = (pre ++ [x]) ++ y :: suf from by simp, show (pre.length : Int) + 1 = ((pre ++ [x]).length : Int) from by simp];exact om _ suf y
 rw [ex] at hf;rw [ey];exact hs.2.2.2.2.2.2.2.2.2.1 (by rw [hf]; rfl)
theorem qdy {l : List S116} {j : Int} (h0 : 0 ≤ j) (h1 : j < l.length) (fr : Bool) : nf fr (l.take (j + 1).toNat) = !(aa l j).f2 := by
 have e : l.take (j + 1).toNat = l.take j.toNat ++ [aa l j] := by obtain ⟨h, er⟩ := th h0 h1;rw [er, show (j + 1).toNat = j.toNat + 1 from by omega, List.take_add_one, List.getElem?_eq_getElem h];rfl
 rw [e, qe0];rfl
theorem qj5 {l : List S116} {i words : Int} (h : mj l words) (hi : 0 ≤ i ∧ i < l.length) (_hu : (aa l i).f2 = true) : nf false (mP l i) = false ∧ (∃ M, mM l i = aa l (fa l i) :: M) ∧ (∀ q Q', mQ l i = q :: Q' → q.f2 = true) := by
 have ft := tr hi;refine ⟨?_, ?_, ?_⟩
 ·unfold mP;by_cases hz : fa l i = 0
  ·rw [hz]; rfl
  ·have e := qdy (l := l) (j := fa l i - 1) (by omega) (by omega) false;rw [show fa l i - 1 + 1 = fa l i from by omega] at e;rw [e];have : (aa l (fa l i - 1)).f2 = true := by
    by_cases c : i > 0 ∧ (aa l (i - 1)).f2 = false
    ·have ef : fa l i = i - 1 := by unfold fa; rw [if_pos c]
     rw [ef] at hz ⊢;cases hb : (aa l (i - 1 - 1)).f2 with
     | true => rfl
     | false =>
      have := qb1 h.2 (j := i - 1 - 1) (by omega) (by omega) hb;rw [show i - 1 - 1 + 1 = i - 1 from by omega, c.2] at this;cases this
    ·have ef : fa l i = i := by unfold fa; rw [if_neg c]
     rw [ef] at hz ⊢;cases hb : (aa l (i - 1)).f2 with
     | true => rfl
     | false => exact absurd ⟨by omega, hb⟩ c
   rw [this]; rfl
 ·unfold mM;have hlen : ((l.take (mTo l i).toNat).drop (fa l i).toNat).length ≠ 0 := by rw [List.length_drop, List.length_take]; omega
  cases hM : (l.take (mTo l i).toNat).drop (fa l i).toNat with
  | nil => rw [hM] at hlen; exact absurd rfl hlen
  | cons x M =>
   refine ⟨M, ?_⟩;have := (qdz ft.1 hM).1;have e2 : aa (l.take (mTo l i).toNat) (fa l i) = aa l (fa l i) := by unfold aa;rw [List.getD_eq_getElem?_getD, List.getD_eq_getElem?_getD, List.getElem?_take_of_lt (by omega)]
   rw [← this, e2]
 ·intro q Q' hq;unfold mQ at hq;obtain ⟨e, hlt⟩ := qdz (by omega) hq;rw [← e];by_cases c : i + 1 < l.length ∧ (aa l (i + 1)).f2 = false
  ·have et : mTo l i = i + 2 := by unfold mTo; rw [if_pos c]
   rw [et] at hlt ⊢;have := qb1 h.2 (j := i + 1) (by omega) (by omega) c.2
   rwa [show i + 1 + 1 = i + 2 from by omega] at this
  ·have et : mTo l i = i + 1 := by unfold mTo; rw [if_neg c]
   rw [et] at hlt ⊢;cases hb : (aa l (i + 1)).f2 with
   | true => rfl
   | false => exact absurd ⟨hlt, hb⟩ c
theorem qkp {l : List S116} {i words : Int} (h : mj l words) (hi : 0 ≤ i ∧ i < l.length) (hu : (aa l i).f2 = true) : mj (mrg l i) words := by
 obtain ⟨hp, ⟨M, hM⟩, hq⟩ := qj5 h hi hu;have hw := h.1;have hc := h.2;unfold pj at hw;rw [yq hi, hM] at hc;have := (qes (by omega) (Int.le_refl _) hc hp hq).2;refine ⟨h.1, ?_⟩;unfold mrg;rw [List.append_assoc, hM];exact this
theorem qjw {l : List S116} {i words : Int} (h : mj l words) (hi : 0 ≤ i ∧ i < l.length) (hu : (aa l i).f2 = true) : Can l i := by
 refine ⟨?_, hi.1, hi.2, hu⟩;unfold IsB;rw [← qi4 h];exact h
theorem qh3 (l : List S116) (hl : l.length ≤ 100000) (suf : List S116) : ∀ pre : List S116, l = pre ++ suf → (∀ b ∈ pre, 2 ≤ b.f1 ∧ b.f1 ≤ 512) → 0 ≤ dh pre → dh pre ≤ 1024 → ∃ t, Ev (fun k => cz.l0 k (dh pre) l (l.length : Int) (pre.length : Int)) t ∧ ((∃ w, mj l w) → t = dh l) ∧ (t = dh l ∨ t = 0) ∧ ((∀ b ∈ l, 2 ≤ b.f1 ∧ b.f1 ≤ 512) → dh l ≤ 512 → t = dh l) := by
 induction suf with
 | nil =>
  intro pre e hp h0 h1;rw [List.append_nil] at e;subst e;exact ⟨dh l, Ev.step (fun k => by rw [cz.l0]) (br (by simp) (Ev.now _)), fun _ => rfl, .inl rfl, fun _ _ => rfl⟩
 | cons x suf ih =>
  intro pre e hp h0 h1;have hlt : (pre.length : Int) < (l.length : Int) := by rw [e]; simp; omega
  have ex : aa l (pre.length : Int) = x := by rw [e]; exact om pre suf x
  by_cases c1 : 2 ≤ x.f1 ∧ x.f1 ≤ 512
  ·by_cases c2 : dh pre > 512
   ·have big : (∀ b ∈ l, 2 ≤ b.f1 ∧ b.f1 ≤ 512) → ¬ dh l ≤ 512 := by
     intro hb hs;rw [e, n4] at hs;have : ∀ m : List S116, (∀ b ∈ m, 2 ≤ b.f1 ∧ b.f1 ≤ 512) → 0 ≤ dh m := by
      intro m
      induction m with
      | nil => intro _; exact Int.le_refl _
      | cons c m ihm => intro hc; have q1 := hc c List.mem_cons_self; have q2 := ihm (fun d hd => hc d (List.mem_cons_of_mem _ hd)); show 0 ≤ c.f1 + dh m; omega
     have q := this (x :: suf) (fun b hb' => hb b (by rw [e]; exact List.mem_append_right _ hb'));omega
    refine ⟨0, Ev.step (fun k => by rw [cz.l0]) ?_, fun ⟨w, hw⟩ => ?_, .inr rfl, fun hb hs => absurd hs (big hb)⟩
    ·rw [ex];exact aj hlt (aj (by omega) (aj hlt (cy (nw _) (aj (by simp [c1]) (aj c2 (Ev.now _))))))
    ·have ht := r9 l hw.2;have hw1 := hw.1;unfold pj at hw1;exact absurd (by omega : dh l ≤ 512) (big (fun b hb => ⟨(fq hw.2 b hb).2.1, (fq hw.2 b hb).2.2.1⟩))
   ·obtain ⟨t, ht, hi⟩ := ih (pre ++ [x]) (by rw [e]; simp) (by
     intro b hb;rcases List.mem_append.1 hb with hb | hb
     ·exact hp b hb
     ·rw [List.mem_singleton.1 hb]; exact c1) (by rw [n4]; show 0 ≤ dh pre + (x.f1 + 0); omega) (by rw [n4]; show dh pre + (x.f1 + 0) ≤ 1024; omega)
    have es : dh (pre ++ [x]) = dh pre + x.f1 := by rw [n4]; show dh pre + (x.f1 + 0) = _; omega
    refine ⟨t, Ev.step (fun k => by rw [cz.l0]) ?_, hi⟩;rw [ex, w64 (n := dh pre + x.f1) (by omega), w64 (n := (pre.length : Int) + 1) (by omega)];refine aj hlt (aj (by omega) (aj hlt (cy (nw _) (aj (by simp [c1]) (br c2 ?_)))));rw [es] at ht;simpa using ht
  ·refine ⟨0, Ev.step (fun k => by rw [cz.l0]) ?_, fun ⟨w, hw⟩ => ?_, .inr rfl, fun hb _ => absurd (hb x (by rw [e]; simp)) c1⟩
   ·rw [ex];exact aj hlt (aj (by omega) (aj hlt (cy (nw _) (br (by simp; omega) (Ev.now _)))))
   ·have := fq hw.2 x (by rw [e]; simp);omega
theorem qg4 {l : List S116} (hl : l.length ≤ 100000) : ∃ t, Ev (fun k => cz.f k l) t ∧ ((∃ w, mj l w) → t = dh l) ∧ (t = dh l ∨ t = 0) ∧ ((∀ b ∈ l, 2 ≤ b.f1 ∧ b.f1 ≤ 512) → dh l ≤ 512 → t = dh l) :=
 qh3 l hl l [] rfl (fun b hb => nomatch hb) (Int.le_refl _) (by show (0 : Int) ≤ 1024; omega)
def tk (s need : Int) : Int := if need < 2 ∨ need > s then 0 else if s - need < 2 then s else need
theorem qjh {s n : Int} (hs : 2 ≤ s ∧ s ≤ 512) : Ev (fun k => eu.f k s n) (tk s n) := by
 unfold eu.f tk;by_cases c : n < 2
 ·rw [if_pos (.inl c)];refine aj c (Ev.step (fun k => by rw [eu.j0]) (aj rfl (Ev.now _)))
 ·refine br c ?_;by_cases d : n > s
  ·rw [if_pos (.inr d), decide_eq_true d];exact Ev.step (fun k => by rw [eu.j0]) (aj rfl (Ev.now _))
  ·rw [if_neg (by omega), decide_eq_false d];refine Ev.step (fun k => by rw [eu.j0]) (br (by decide) ?_);rw [w64 (n := s - n) (by omega)];refine jl (fun e => ?_) (fun e => ?_)
   ·rw [if_pos e]; exact Ev.now _
   ·rw [if_neg e]; exact Ev.now _
theorem qed {s n : Int} (h : tk s n ≠ 0) (hs : 2 ≤ s) : 2 ≤ tk s n ∧ tk s n ≤ s ∧ (tk s n < s → 2 ≤ s - tk s n) ∧ 2 ≤ n ∧ n ≤ tk s n := by
 unfold tk at h ⊢;split at h
 ·exact absurd rfl h
 ·rename_i c
  rw [if_neg c];split <;> omega
theorem qk0 {s n : Int} (hs : 2 ≤ s) : tk s n = 0 ↔ (n < 2 ∨ n > s) := by
 unfold tk;split
 ·rename_i c; exact ⟨fun _ => c, fun _ => rfl⟩
 ·rename_i c
  split
  ·exact ⟨fun h => by omega, fun h => absurd h c⟩
  ·exact ⟨fun h => by omega, fun h => absurd h c⟩
def qa2 (l : List S116) (i need : Int) : Prop := IsB l ∧ 0 ≤ i ∧ i < l.length ∧ (aa l i).f2 = false ∧ tk (aa l i).f1 need ≠ 0
def tkn (b : S116) (need : Int) : List S116 := ⟨b.f0, tk b.f1 need, true⟩ :: (if tk b.f1 need < b.f1 then [⟨b.f0 + tk b.f1 need, b.f1 - tk b.f1 need, false⟩] else [])
def crv (l : List S116) (i need : Int) : List S116 := l.take i.toNat ++ tkn (aa l i) need ++ l.drop (i.toNat + 1)
theorem uu {l : List S116} {i : Int} (h : IsB l) (h0 : 0 ≤ i) (h1 : i < l.length) : 0 ≤ (aa l i).f0 ∧ 2 ≤ (aa l i).f1 ∧ (aa l i).f1 ≤ 512 ∧ (aa l i).f0 + (aa l i).f1 ≤ 512 := by
 have := sf h.2 h0 h1;have hw := h.1;unfold pj at hw;omega
theorem qgk {l : List S116} {i need : Int} (hl : l.length ≤ 100000) (h : qa2 l i need) : Ev (fun k => cf.f k l i need) (tkn (aa l i) need) := by
 obtain ⟨h1, h2, h3, h4, h5⟩ := h;have hr := uu h1 h2 h3;have ht := qed h5 hr.2.1;unfold cf.f;obtain ⟨t, hw, hi, _⟩ := qg4 hl;rw [hi ⟨_, h1⟩] at hw;refine ec hw (ec (qdq hl h1) (aj rfl (br (by omega) (br (by omega) (aj h2 (aj h3 ?_))))));rw [h4];refine Ev.step (fun k => by rw [cf.j0]) ?_;refine br (by decide) (aj h2 (aj h3 (ec (qjh ⟨by omega, by omega⟩) (br h5 (cy rfl ?_)))));rw [w64 (n := (aa l i).f0 + tk (aa l i).f1 need) (by omega), w64 (n := (aa l i).f1 - tk (aa l i).f1 need) (by omega)];unfold tkn;refine jl (fun c => aj (by simp) ?_) (fun c => ?_)
 ·rw [if_pos c]; exact Ev.now _
 ·rw [if_neg c]; exact Ev.now _
def oe (n : Int) (u : Bool) : Int := if 2 ≤ n ∧ n ≤ 512 then 2 * n + (if u then 1 else 0) else 0
def jk (a k : Int) : Nat → List S160
 | 0 => []
 | n + 1 => ⟨a + k, 0⟩ :: jk a (k + 1) n
theorem xv (a : Int) (n : Nat) : ∀ k, (jk a k n).length = n := by
 induction n with
 | zero => intro k; rfl
 | succ n ih => intro k; show (jk a (k + 1) n).length + 1 = n + 1; rw [ih]
def eds (b : S116) (need : Int) : List S160 :=
 ⟨b.f0, oe (tk b.f1 need) true⟩ :: (jk b.f0 1 (tk b.f1 need - 1).toNat ++ (if tk b.f1 need < b.f1 then [⟨b.f0 + tk b.f1 need, oe (b.f1 - tk b.f1 need) false⟩] else []))
theorem qih (l : List S116) (n b0 b1 : Int) (r : List S160) (u : Bool) (hb : 0 ≤ b0 ∧ b0 ≤ 1000 ∧ b1 ≤ 1000) (d : Nat) : ∀ (acc : List S160) (k : Int), 0 ≤ k → k + d = b1 → u = true → acc.length + d ≤ 100000 → Ev (fun j => be.l0 j (acc ++ jk b0 k d) l (l.length : Int) (wrap64 (n + 1))) r → Ev (fun j => be.l1 j acc k l (l.length : Int) n b0 b1 u) r := by
 induction d with
 | zero =>
  intro acc k h0 h1 hu hl hg;refine Ev.step (fun j => by rw [be.l1]) ?_;refine br (by omega) ?_;have e : acc ++ jk b0 k 0 = acc := List.append_nil _
  rwa [e] at hg
 | succ d ih =>
  intro acc k h0 h1 hu hl hg;refine Ev.step (fun j => by rw [be.l1]) ?_;refine aj (by omega) (aj hu (aj (by omega) ?_));rw [w64 (n := b0 + k) (by omega), w64 (n := k + 1) (by omega)];refine ih (acc ++ [⟨b0 + k, 0⟩]) (k + 1) (by omega) (by omega) hu (by simp; omega) ?_;have e : acc ++ jk b0 k (d + 1) = acc ++ [⟨b0 + k, 0⟩] ++ jk b0 (k + 1) d := by show acc ++ (⟨b0 + k, 0⟩ :: jk b0 (k + 1) d) = _;simp
  rwa [e] at hg
theorem qet {l : List S116} {i need : Int} (hl : l.length ≤ 1000) (h : qa2 l i need) : Ev (fun k => be.f k l i need) (eds (aa l i) need) := by
 have hr := uu h.1 h.2.1 h.2.2.1;have ht := qed h.2.2.2.2 hr.2.1;unfold be.f;refine ec (qgk (by omega) h) ?_;generalize hb : aa l i = b at hr ht;unfold tkn eds;generalize tk b.f1 need = t at ht;by_cases c : t < b.f1
 ·rw [if_pos c, if_pos c];have hL : (([⟨b.f0, t, true⟩, ⟨b.f0 + t, b.f1 - t, false⟩] : List S116).length : Int) = 2 := rfl;refine Ev.step (fun j => by rw [be.l0]) ?_;refine aj (by simp) (aj (by decide) (aj (by simp) ?_));rw [show aa ([⟨b.f0, t, true⟩, ⟨b.f0 + t, b.f1 - t, false⟩] : List S116) 0 = ⟨b.f0, t, true⟩ from rfl];refine cy (vt t true) (aj (by simp) ?_);refine qih _ 0 b.f0 t _ true ⟨by omega, by omega, by omega⟩ (t - 1).toNat _ 1 (by omega) (by omega) rfl (by simp; omega) ?_;refine Ev.step (fun j => by rw [be.l0]) ?_;rw [show wrap64 ((0 : Int) + 1) = 1 from w64 (by decide)];refine aj (by simp) (aj (by decide) (aj (by simp) ?_));rw [show aa ([⟨b.f0, t, true⟩, ⟨b.f0 + t, b.f1 - t, false⟩] : List S116) 1 = ⟨b.f0 + t, b.f1 - t, false⟩ from rfl];refine cy (vt (b.f1 - t) false) (aj (by rw [List.length_append, xv]; simp; omega) ?_);refine Ev.step (fun j => by rw [be.l1]) ?_;refine aj (by have := ht.2.2.1 c; dsimp only; omega) (br (by simp) ?_);refine Ev.step (fun j => by rw [be.l0]) ?_;rw [show wrap64 ((1 : Int) + 1) = 2 from w64 (by decide)];refine br (by simp) (qal ?_);unfold oe;simp
 ·rw [if_neg c, if_neg c];refine Ev.step (fun j => by rw [be.l0]) ?_;refine aj (by simp) (aj (by decide) (aj (by simp) ?_));rw [show aa ([⟨b.f0, t, true⟩] : List S116) 0 = ⟨b.f0, t, true⟩ from rfl];refine cy (vt t true) (aj (by simp) ?_);refine qih _ 0 b.f0 t _ true ⟨by omega, by omega, by omega⟩ (t - 1).toNat _ 1 (by omega) (by omega) rfl (by simp; omega) ?_;refine Ev.step (fun j => by rw [be.l0]) ?_;rw [show wrap64 ((0 : Int) + 1) = 1 from w64 (by decide)];refine br (by simp) (qal ?_);unfold oe;simp
theorem qlc {b : S116} {need : Int} (h : 2 ≤ tk b.f1 need) : ((eds b need).length : Int) = tk b.f1 need + (if tk b.f1 need < b.f1 then 1 else 0) := by
 unfold eds;rw [List.length_cons, List.length_append, xv];split
 ·simp only [List.length_cons, List.length_nil]; omega
 ·simp only [List.length_nil]; omega
theorem yv {l : List S116} {i : Int} (h0 : 0 ≤ i) (h1 : i < l.length) : l = l.take i.toNat ++ aa l i :: l.drop (i.toNat + 1) := by
 obtain ⟨h, e⟩ := th h0 h1;rw [e, ← List.drop_eq_getElem_cons h];exact (List.take_append_drop _ _).symm
theorem qkb {l : List S116} {i need words : Int} (hC : mj l words) (h : qa2 l i need) : mj (crv l i need) words := by
 obtain ⟨h1, h2, h3, h4, h5⟩ := h;have hr := uu h1 h2 h3;have ht := qed h5 hr.2.1;have hc := hC.2;rw [yv h2 h3] at hc;have hs := oo _ _ hc;obtain ⟨k0, k1, k2, k3, k4, k5⟩ := hs;rw [h4] at k4 k5;have hfr : nf false (l.take i.toNat) = false := by
  cases hf : nf false (l.take i.toNat) with
  | false => rfl
  | true => have := k4 hf; cases this
 have hq : ∀ q Q', l.drop (i.toNat + 1) = q :: Q' → q.f2 = true := by intro q Q' e;rw [e] at k5;exact k5.2.2.2.2.1 rfl
 refine ⟨hC.1, ?_⟩;unfold crv;rw [List.append_assoc];refine qeb _ _ _ hc ?_;rw [hfr];unfold tkn;split
 ·rename_i c
  have := ht.2.2.1 c;refine ⟨k0, by dsimp only; omega, by dsimp only; omega, by dsimp only; omega, (fun hh => nomatch hh), ?_⟩;refine ⟨by dsimp only; omega, by dsimp only; omega, by dsimp only; omega, by dsimp only; omega, (fun hh => nomatch hh), ?_⟩;dsimp only;have e : 0 + dh (l.take i.toNat) + tk (aa l i).f1 need + ((aa l i).f1 - tk (aa l i).f1 need) = 0 + dh (l.take i.toNat) + (aa l i).f1 := by omega
  rw [e];exact k5
 ·rename_i c
  have e : tk (aa l i).f1 need = (aa l i).f1 := by omega
  refine ⟨k0, by dsimp only; omega, by dsimp only; omega, by dsimp only; omega, (fun hh => nomatch hh), ?_⟩;dsimp only;rw [e];exact qdw _ k5 hq
theorem qkz {l : List S116} {i need words : Int} (hC : mj l words) (h0 : 0 ≤ i) (h1 : i < l.length) (hn : 2 ≤ need) : qa2 l i need ↔ ((aa l i).f2 = false ∧ need ≤ (aa l i).f1) := by
 have hB : IsB l := by unfold IsB; rw [← qi4 hC]; exact hC
 have hr := uu hB h0 h1;have hz := qk0 (s := (aa l i).f1) (n := need) hr.2.1;constructor
 ·rintro ⟨_, _, _, h4, h5⟩;refine ⟨h4, ?_⟩;by_cases c : need ≤ (aa l i).f1
  ·exact c
  ·exact absurd (hz.2 (by omega)) h5
 ·rintro ⟨h4, h5⟩;exact ⟨hB, h0, h1, h4, fun e => by have := hz.1 e; omega⟩
def app : List Int → List S160 → List Int
 | v, [] => v
 | v, e :: es => app (if 0 ≤ e.f0 ∧ e.f0 < v.length then v.set e.f0.toNat e.f1 else v) es
theorem vv (es : List S160) : ∀ v, (app v es).length = v.length := by
 induction es with
 | nil => intro v; rfl
 | cons e es ih =>
  intro v;show (app _ es).length = _;rw [ih];split
  ·rw [List.length_set]
  ·rfl
theorem qf6 (es fs : List S160) : ∀ v, app v (es ++ fs) = app (app v es) fs := by
 induction es with
 | nil => intro v; rfl
 | cons e es ih => intro v; exact ih _
theorem qj6 (es : List S160) : ∀ v, Wds v → (∀ e ∈ es, 0 ≤ e.f1 ∧ e.f1 ≤ 18446744073709551615) → Wds (app v es) := by
 induction es with
 | nil => intro v h _; exact h
 | cons e es ih =>
  intro v h he;refine ih _ ?_ (fun x hx => he x (List.mem_cons_of_mem _ hx));have := he e List.mem_cons_self;split
  ·exact qb7 h this.1 this.2
  ·exact h
theorem qfl (pre suf : List S160) (x : S160) : bo (pre ++ x :: suf) (pre.length : Int) = x := by
 unfold bo;rw [List.getD_eq_getElem?_getD, Int.toNat_natCast, List.getElem?_append_right (by omega)];simp
theorem qke (a : Int) (n : Nat) (ha : 0 ≤ a) : ∀ (v : List Int) (k j : Int), 0 ≤ k → a + k + n ≤ v.length → 0 ≤ j → rd (app v (jk a k n)) j = if a + k ≤ j ∧ j < a + k + n then 0 else rd v j := by
 induction n with
 | zero => intro v k j h0 h1 h2; rw [if_neg (by omega)]; rfl
 | succ n ih =>
  intro v k j h0 h1 h2;show rd (app (if 0 ≤ a + k ∧ a + k < v.length then v.set (a + k).toNat 0 else v) (jk a (k + 1) n)) j = _;rw [if_pos (by omega), ih _ (k + 1) j (by omega) (by rw [List.length_set]; omega) h2, j9 _ _ (by omega)];by_cases c : j = a + k
  ·rw [if_neg (by omega), if_pos (by omega), if_pos (by omega)]
  ·rw [if_neg (show ¬ j.toNat = (a + k).toNat by omega)];by_cases d : a + (k + 1) ≤ j ∧ j < a + (k + 1) + n
   ·rw [if_pos d, if_pos (by omega)]
   ·rw [if_neg d, if_neg (by omega)]
theorem qj2 {a : Int} {n : Nat} : ∀ {k : Int} {e : S160}, e ∈ jk a k n → e.f1 = 0 := by
 induction n with
 | zero => intro k e h; cases h
 | succ n ih =>
  intro k e h;rcases List.mem_cons.1 h with h | h
  ·rw [h]
  ·exact ih h
theorem qlv {n : Int} {u : Bool} (h : 2 ≤ n ∧ n ≤ 512) : oe n u = 2 * n + (if u = true then 1 else 0) := by
 unfold oe;rw [if_pos h]
theorem qmg {v : List Int} {b : S116} {need : Int} (hb : 0 ≤ b.f0) (hv : b.f0 + b.f1 ≤ v.length) (h2 : 2 ≤ tk b.f1 need) (ht : tk b.f1 need ≤ b.f1) {j : Int} (h0 : 0 ≤ j) : rd (app v (eds b need)) j = if j = b.f0 + tk b.f1 need ∧ tk b.f1 need < b.f1 then oe (b.f1 - tk b.f1 need) false else if b.f0 < j ∧ j < b.f0 + tk b.f1 need then 0 else if j = b.f0 then oe (tk b.f1 need) true else rd v j := by
 unfold eds;show rd (app (if 0 ≤ b.f0 ∧ b.f0 < v.length then v.set b.f0.toNat (oe (tk b.f1 need) true) else v) _) j = _;rw [if_pos (by omega), qf6];have hn : ∀ i : Int, 0 ≤ i → rd (app (v.set b.f0.toNat (oe (tk b.f1 need) true)) (jk b.f0 1 (tk b.f1 need - 1).toNat)) i = if b.f0 < i ∧ i < b.f0 + tk b.f1 need then 0 else if i = b.f0 then oe (tk b.f1 need) true else rd v i := by
  intro i hi;rw [qke b.f0 _ hb _ 1 i (by omega) (by rw [List.length_set]; omega) hi, j9 _ _ (by omega)];by_cases c : b.f0 < i ∧ i < b.f0 + tk b.f1 need
  ·rw [if_pos c, if_pos (by omega)]
  ·rw [if_neg c, if_neg (by omega)];by_cases d : i = b.f0
   ·rw [if_pos d, if_pos (by omega)]
   ·rw [if_neg d, if_neg (by omega)]
 by_cases c : tk b.f1 need < b.f1
 ·rw [if_pos c];show rd (if 0 ≤ b.f0 + tk b.f1 need ∧ b.f0 + tk b.f1 need < _ then (app (v.set b.f0.toNat (oe (tk b.f1 need) true)) (jk b.f0 1 (tk b.f1 need - 1).toNat)).set (b.f0 + tk b.f1 need).toNat (oe (b.f1 - tk b.f1 need) false) else _) j = _;rw [if_pos (by rw [vv, List.length_set]; omega), j9 _ _ (by rw [vv, List.length_set]; omega)];by_cases d : j = b.f0 + tk b.f1 need
  ·rw [if_pos (by omega), if_pos ⟨d, c⟩]
  ·rw [if_neg (by omega), if_neg (fun h => d h.1), hn j h0]
 ·rw [if_neg c, if_neg (fun h => c h.2)];exact hn j h0
theorem qf8 (b : S116) (need : Int) : ∀ e ∈ eds b need, 0 ≤ e.f1 ∧ e.f1 ≤ 18446744073709551615 := by
 have hh : ∀ (n : Int) (u : Bool), 0 ≤ oe n u ∧ oe n u ≤ 18446744073709551615 := by
  intro n u;unfold oe;split
  ·split <;> omega
  ·omega
 intro e he;unfold eds at he;rcases List.mem_cons.1 he with he | he
 ·rw [he]; exact hh _ _
 ·rcases List.mem_append.1 he with he | he
  ·rw [qj2 he]; omega
  ·split at he
   ·rw [List.mem_singleton.1 he]; exact hh _ _
   ·cases he
theorem qhn {l : List S116} {i need words : Int} {v : List Int} (hC : mj l words) (h : qa2 l i need) (hv : (v.length : Int) = words) (hH : ∀ b ∈ l, rd v b.f0 = p9 b) : ∀ b ∈ crv l i need, rd (app v (eds (aa l i) need)) b.f0 = p9 b := by
 obtain ⟨h1, h2, h3, h4, h5⟩ := h;have hr := uu h1 h2 h3;have ht := qed h5 hr.2.1;have hrw := sf hC.2 h2 h3;have hw := hC.1;unfold pj at hw;have hup := wh hC.2;have hl := yv h2 h3;have hlm : ∀ b ∈ l.take i.toNat, b ∈ l := fun b hb => List.mem_of_mem_take hb;have hdm : ∀ b ∈ l.drop (i.toNat + 1), b ∈ l := fun b hb => List.mem_of_mem_drop hb;rw [hl] at hup;rw [List.pairwise_append] at hup;intro b hb;have rdv := fun (j : Int) (j0 : 0 ≤ j) => qmg (v := v) (b := aa l i) (need := need) hr.1 (by omega) ht.1 ht.2.1 j0;unfold crv at hb;rcases List.mem_append.1 hb with hb | hb
 ·rcases List.mem_append.1 hb with hb | hb
  ·have hx := hup.2.2 b hb _ List.mem_cons_self;have hm := fq hC.2 b (hlm b hb);rw [rdv b.f0 (by omega), if_neg (by omega), if_neg (by omega), if_neg (by omega)];exact hH b (hlm b hb)
  ·unfold tkn at hb;rcases List.mem_cons.1 hb with hb | hb
   ·rw [hb];dsimp only;rw [rdv _ (by omega), if_neg (by omega), if_neg (by omega), if_pos rfl, qlv (by omega)];rfl
   ·split at hb
    ·rename_i c
     have := ht.2.2.1 c;rw [List.mem_singleton.1 hb];dsimp only;rw [rdv _ (by omega), if_pos ⟨rfl, c⟩, qlv (by omega)];rfl
    ·cases hb
 ·have hx := (List.pairwise_cons.1 hup.2.1).1 b hb;have hm := fq hC.2 b (hdm b hb);rw [rdv b.f0 (by omega), if_neg (by omega), if_neg (by omega), if_neg (by omega)];exact hH b (hdm b hb)
def Wf (l : List S116) : Prop := l.length ≤ 1000 ∧ ∀ j : Int, -9223372036854775808 ≤ (aa l j).f0 ∧ (aa l j).f0 ≤ 9223372036854775807 ∧ -9223372036854775808 ≤ (aa l j).f1 ∧ (aa l j).f1 ≤ 9223372036854775807
def OkB (l : List S116) (need j : Int) : Prop := (aa l j).f2 = false ∧ need ≤ (aa l j).f1
structure FitsP (l : List S116) (need i : Int) (out : List Int) : Prop where
 ok : ∀ x ∈ out, 0 ≤ x ∧ x < i ∧ OkB l need x ∧ ∀ j : Int, 0 ≤ j → j < i → OkB l need j → (aa l x).f1 ≤ (aa l j).f1
 all : ∀ x : Int, 0 ≤ x → x < i → OkB l need x → (∀ j : Int, 0 ≤ j → j < i → OkB l need j → (aa l x).f1 ≤ (aa l j).f1) → x ∈ out
 none : out = [] → ∀ j : Int, 0 ≤ j → j < i → ¬ OkB l need j
 len : (out.length : Int) ≤ i
 up : out.Pairwise (· < ·)
theorem FitsP.zero (l : List S116) (need : Int) : FitsP l need 0 [] :=
 ⟨fun x h => absurd h (by simp), fun x h0 h1 => by omega, fun _ j h0 h1 => by omega, by simp, List.Pairwise.nil⟩
theorem FitsP.skip {l : List S116} {need i : Int} {out : List Int} (h : FitsP l need i out) (hn : ¬ OkB l need i) : FitsP l need (i + 1) out := by
 have hj : ∀ j : Int, j < i + 1 → OkB l need j → j < i := fun j h1 h2 => by
  by_cases e : j = i
  ·subst e; exact absurd h2 hn
  ·omega
 refine ⟨fun x hx => ?_, fun x h0 h1 h2 h3 => ?_, fun h0 j h1 h2 h3 => ?_, by have := h.len; omega, h.up⟩
 ·obtain ⟨a, b, c, d⟩ := h.ok x hx;exact ⟨a, by omega, c, fun j h0 h1 h2 => d j h0 (hj j h1 h2) h2⟩
 ·exact h.all x h0 (hj x h1 h2) h2 (fun j h4 h5 h6 => h3 j h4 (by omega) h6)
 ·exact h.none h0 j h1 (hj j h2 h3) h3
theorem FitsP.first {l : List S116} {need i : Int} (hi : 0 ≤ i) (h : FitsP l need i []) (ho : OkB l need i) : FitsP l need (i + 1) [i] := by
 have hj : ∀ j : Int, 0 ≤ j → j < i + 1 → OkB l need j → j = i := fun j h0 h1 h2 => by
  by_cases e : j = i
  ·exact e
  ·exact absurd h2 (h.none rfl j h0 (by omega))
 refine ⟨fun x hx => ?_, fun x h0 h1 h2 h3 => ?_, fun h0 => by simp at h0, by simp; omega, by simp⟩
 ·have hx := List.mem_singleton.1 hx;subst hx;exact ⟨hi, by omega, ho, fun j h0 h1 h2 => by rw [hj j h0 h1 h2]; exact Int.le_refl _⟩
 ·rw [hj x h0 h1 h2]; simp
theorem FitsP.head {l : List S116} {need i : Int} {a : Int} {out : List Int} (h : FitsP l need i (a :: out)) : 0 ≤ a ∧ a < i ∧ OkB l need a ∧ ∀ x ∈ a :: out, (aa l x).f1 = (aa l a).f1 := by
 obtain ⟨h0, h1, h2, h3⟩ := h.ok a (by simp);refine ⟨h0, h1, h2, fun x hx => ?_⟩;obtain ⟨g0, g1, g2, g3⟩ := h.ok x hx;have := h3 x g0 g1 g2;have := g3 a h0 h1 h2;omega
theorem FitsP.less {l : List S116} {need i : Int} {a : Int} {out : List Int} (h : FitsP l need i (a :: out)) (ho : OkB l need i) (hs : (aa l i).f1 < (aa l a).f1) : FitsP l need (i + 1) [i] := by
 obtain ⟨h0, h1, h2, h3⟩ := h.ok a (by simp);refine ⟨fun x hx => ?_, fun x g0 g1 g2 g3 => ?_, fun h0 => by simp at h0, by simp; omega, by simp⟩
 ·have hx := List.mem_singleton.1 hx;subst hx;refine ⟨by omega, by omega, ho, fun j g0 g1 g2 => ?_⟩;by_cases e : j = x
  ·subst e; exact Int.le_refl _
  ·have := h3 j g0 (by omega) g2; omega
 ·by_cases e : x = i
  ·subst e; simp
  ·exfalso;have := h3 x g0 (by omega) g2;have := g3 i (by omega) (by omega) ho;omega
theorem FitsP.same {l : List S116} {need i : Int} {a : Int} {out : List Int} (h : FitsP l need i (a :: out)) (ho : OkB l need i) (hs : (aa l i).f1 = (aa l a).f1) : FitsP l need (i + 1) ((a :: out) ++ [i]) := by
 obtain ⟨h0, h1, h2, h3⟩ := h.ok a (by simp);have hh := h.head.2.2.2;refine ⟨fun x hx => ?_, fun x g0 g1 g2 g3 => ?_, fun h0 => by simp at h0, by have := h.len; simp at this ⊢; omega, ?_⟩
 ·have key : ∀ j : Int, 0 ≤ j → j < i + 1 → OkB l need j → (aa l a).f1 ≤ (aa l j).f1 := fun j g0 g1 g2 => by
   by_cases e : j = i
   ·subst e; omega
   ·exact h3 j g0 (by omega) g2
  rcases List.mem_append.1 hx with hx | hx
  ·obtain ⟨k0, k1, k2, _⟩ := h.ok x hx;exact ⟨k0, by omega, k2, fun j g0 g1 g2 => by rw [hh x hx]; exact key j g0 g1 g2⟩
  ·have hx := List.mem_singleton.1 hx;subst hx;exact ⟨by omega, by omega, ho, fun j g0 g1 g2 => by rw [hs]; exact key j g0 g1 g2⟩
 ·by_cases e : x = i
  ·subst e; simp
  ·exact List.mem_append_left _ (h.all x g0 (by omega) g2 (fun j k0 k1 k2 => g3 j k0 (by omega) k2))
 ·refine List.pairwise_append.2 ⟨h.up, by simp, fun x hx y hy => ?_⟩;have hy := List.mem_singleton.1 hy;subst hy;exact (h.ok x hx).2.1
theorem FitsP.more {l : List S116} {need i : Int} {a : Int} {out : List Int} (h : FitsP l need i (a :: out)) (hs : (aa l a).f1 < (aa l i).f1) : FitsP l need (i + 1) (a :: out) := by
 obtain ⟨h0, h1, h2, h3⟩ := h.ok a (by simp);have hh := h.head.2.2.2;refine ⟨fun x hx => ?_, fun x g0 g1 g2 g3 => ?_, fun h0 => by simp at h0, by have := h.len; omega, h.up⟩
 ·obtain ⟨k0, k1, k2, k3⟩ := h.ok x hx;refine ⟨k0, by omega, k2, fun j g0 g1 g2 => ?_⟩;by_cases e : j = i
  ·subst e; have := hh x hx; omega
  ·exact k3 j g0 (by omega) g2
 ·by_cases e : x = i
  ·subst e;have := g3 a h0 (by omega) h2;omega
  ·exact h.all x g0 (by omega) g2 (fun j k0 k1 k2 => g3 j k0 (by omega) k2)
theorem qf0 (a : Int) (out : List Int) : rd (a :: out) 0 = a := rfl
theorem qj7 {l : List S116} {need : Int} (hl : Wf l) (hn : 2 ≤ need) (d : Nat) : ∀ (i : Int) (out : List Int), 0 ≤ i → i + d = l.length → FitsP l need i out → ∃ r, Ev (fun k => aw.l0 k l need out l (l.length : Int) i) r ∧ FitsP l need l.length r := by
 have hlen := hl.1
 induction d with
 | zero =>
  intro i out h0 hd h;have e : i = (l.length : Int) := by omega
  subst e;exact ⟨out, Ev.step (fun k => by rw [aw.l0]) (br (by omega) (Ev.now _)), h⟩
 | succ d ih =>
  intro i out h0 hd h;have hlt : i < (l.length : Int) := by omega
  have hol := h.len;have J5 : ∀ (o : List Int) r, Ev (fun k => aw.l0 k l need o l (l.length : Int) (i + 1)) r → Ev (fun k => aw.j5 k l need o l (l.length : Int) i) r := fun o r hr => by refine Ev.step (fun k => by rw [aw.j5]) ?_;rw [w64 (n := i + 1) (by omega)];exact hr
  have J4 : ∀ (o : List Int) r, o.length ≤ 1000 → Ev (fun k => aw.l0 k l need (o ++ [i]) l (l.length : Int) (i + 1)) r → Ev (fun k => aw.j4 k l need o i l (l.length : Int) i true) r := fun o r ho hr =>
   Ev.step (fun k => by rw [aw.j4]) (aj rfl (aj (by omega) (J5 _ _ hr)))
  by_cases ho : OkB l need i
  ·have enter : ∀ r, Ev (fun k => aw.j1 k l need out i l (l.length : Int) i false ((aa l i).f0) ((aa l i).f1) ((aa l i).f2)) r → Ev (fun k => aw.l0 k l need out l (l.length : Int) i) r := by
    intro r hr;refine Ev.step (fun k => by rw [aw.l0]) ?_;refine aj hlt (aj h0 (aj hlt (br (by omega) (br (by rw [ho.1]; decide) ?_))));rw [decide_eq_false (by have := ho.2; omega)];exact hr
   have nil3 : ∀ r, Ev (fun k => aw.l0 k l need [i] l (l.length : Int) (i + 1)) r → Ev (fun k => aw.j3 k l need ([] : List Int) i l (l.length : Int) i ((aa l i).f0) ((aa l i).f1) ((aa l i).f2)) r := by intro r hr;refine Ev.step (fun k => by rw [aw.j3]) ?_;exact aj rfl (J4 [] r (by simp) hr)
   cases out with
   | nil =>
    obtain ⟨r, hr, hp⟩ := ih (i + 1) [i] (by omega) (by omega) (h.first h0 ho);refine ⟨r, enter r ?_, hp⟩;refine Ev.step (fun k => by rw [aw.j1]) (br (by decide) (br (by decide) ?_));exact Ev.step (fun k => by rw [aw.j2]) (br (by decide) (nil3 r hr))
   | cons a out =>
    obtain ⟨a0, a1, a2, a3⟩ := h.head;have go : ∀ r (b : Bool), b = decide ((aa l i).f1 < (aa l a).f1) → Ev (fun k => aw.j2 k l need (a :: out) i l (l.length : Int) i b ((aa l i).f0) ((aa l i).f1) ((aa l i).f2)) r →
      Ev (fun k => aw.j1 k l need (a :: out) i l (l.length : Int) i false ((aa l i).f0) ((aa l i).f1) ((aa l i).f2)) r := by
     intro r b hb hr;refine Ev.step (fun k => by rw [aw.j1]) (br (by decide) (aj (by simp) (aj (by simp) ?_)));rw [qf0];refine aj a0 (aj (by omega) ?_);rw [← hb];exact hr
    have go3 : ∀ r (b : Bool), b = ((aa l i).f1 == (aa l a).f1) → Ev (fun k => aw.j4 k l need (a :: out) i l (l.length : Int) i b) r →
      Ev (fun k => aw.j2 k l need (a :: out) i l (l.length : Int) i false ((aa l i).f0) ((aa l i).f1) ((aa l i).f2)) r := by
     intro r b hb hr;refine Ev.step (fun k => by rw [aw.j2]) (br (by decide) ?_);refine Ev.step (fun k => by rw [aw.j3]) (br (by simp; omega) (aj (by simp) ?_));rw [qf0];refine aj a0 (aj (by omega) ?_);rw [← hb];exact hr
    by_cases c1 : (aa l i).f1 < (aa l a).f1
    ·obtain ⟨r, hr, hp⟩ := ih (i + 1) [i] (by omega) (by omega) (h.less ho c1);refine ⟨r, enter r (go r true (by rw [decide_eq_true c1]) ?_), hp⟩;exact Ev.step (fun k => by rw [aw.j2]) (aj rfl (nil3 r hr))
    ·by_cases c2 : (aa l i).f1 = (aa l a).f1
     ·obtain ⟨r, hr, hp⟩ := ih (i + 1) ((a :: out) ++ [i]) (by omega) (by omega) (h.same ho c2);exact ⟨r, enter r (go r false (by rw [decide_eq_false c1]) (go3 r true (beq_iff_eq.2 c2).symm (J4 _ r (by omega) hr))), hp⟩
     ·obtain ⟨r, hr, hp⟩ := ih (i + 1) (a :: out) (by omega) (by omega) (h.more (by omega));exact ⟨r, enter r (go r false (by rw [decide_eq_false c1]) (go3 r false (beq_eq_false_iff_ne.2 c2).symm (Ev.step (fun k => by rw [aw.j4]) (br (by decide) (J5 _ _ hr))))), hp⟩
  ·obtain ⟨r, hr, hp⟩ := ih (i + 1) out (by omega) (by omega) (h.skip ho);refine ⟨r, Ev.step (fun k => by rw [aw.l0]) ?_, hp⟩;have j1 : Ev (fun k => aw.j1 k l need out i l (l.length : Int) i true ((aa l i).f0) ((aa l i).f1) ((aa l i).f2)) r :=
    Ev.step (fun k => by rw [aw.j1]) (aj rfl (J5 _ _ hr))
   refine aj hlt (aj h0 (aj hlt (br (by omega) ?_)));refine jl (fun _ => j1) (fun c => ?_);rw [decide_eq_true (show (aa l i).f1 < need from by
    have : ¬ (need ≤ (aa l i).f1) := fun hh => ho ⟨by simpa using c, hh⟩;omega)]
   exact j1
theorem qkn {l : List S116} {need : Int} (hl : Wf l) (hn : 2 ≤ need) : ∃ r, Ev (fun k => aw.f k l need) r ∧ FitsP l need l.length r :=
 qj7 hl hn l.length 0 [] (by omega) (by omega) (FitsP.zero l need)
def qbd (at_ : Int) (counts : List Int) : Int := if at_ < 0 ∨ (counts.length : Int) ≤ at_ / 32 then 0 else rd counts (at_ / 32)
theorem qd1 {a b : Int} {c : Bool} {counts : List Int} (h1 : a ≤ 9223372036854775807) : lx.f a b c counts = some (qbd a counts) := by
 unfold lx.f qbd;by_cases h : a < 0
 ·rw [if_pos h, if_pos (Or.inl h)]
 ·rw [if_neg h, qbu (by omega), w64 (n := a / 32) (by omega)];by_cases h2 : a / 32 ≥ (counts.length : Int)
  ·rw [if_pos h2, if_pos (Or.inr h2)]
  ·rw [if_neg h2, if_pos (by omega), if_pos (by omega), if_neg (by omega)]
def Leq (l : List S116) (counts : List Int) (x y : Int) : Prop :=
 qbd (aa l x).f0 counts < qbd (aa l y).f0 counts ∨ (qbd (aa l x).f0 counts = qbd (aa l y).f0 counts ∧ (aa l x).f0 ≤ (aa l y).f0)
def td (l : List S116) (counts out : List Int) (c : Int) : Prop := (out = [] ∧ c = -1) ∨ (c ∈ out ∧ ∀ y ∈ out, Leq l counts c y)
theorem qe2 (pre suf : List Int) (x : Int) : rd (pre ++ x :: suf) (pre.length : Int) = x := by
 unfold rd;rw [List.getD_eq_getElem?_getD, Int.toNat_natCast, List.getElem?_append_right (by omega)];simp
theorem qhu {l : List S116} {counts : List Int} (hl : Wf l) (suf : List Int) : ∀ (pre : List Int) (best : Int), (∀ x ∈ pre ++ suf, 0 ≤ x ∧ x < l.length) → (pre ++ suf).length ≤ 1000 → td l counts pre best → ∃ r, Ev (fun k => au.l0 k l counts best (pre ++ suf) ((pre ++ suf).length : Int) (pre.length : Int)) r ∧ td l counts (pre ++ suf) r := by
 induction suf with
 | nil =>
  intro pre best hr hlen h;refine ⟨best, Ev.step (fun k => by rw [au.l0]) (br (by simp) (Ev.now _)), by simpa using h⟩
 | cons x suf ih =>
  intro pre best hr hlen h;have hx := hr x (by simp);have e : pre ++ x :: suf = (pre ++ [x]) ++ suf := by simp
  have hlen2 : ((pre ++ [x]).length : Int) = (pre.length : Int) + 1 := by simp
  have hlt : (pre.length : Int) < ((pre ++ x :: suf).length : Int) := by simp; omega
  have next : ∀ b, td l counts (pre ++ [x]) b → ∃ r, Ev (fun k => au.j2 k l counts b (pre ++ x :: suf) ((pre ++ x :: suf).length : Int) (pre.length : Int)) r ∧ td l counts (pre ++ x :: suf) r := by intro b hb;have := ih (pre ++ [x]) b (by rw [← e]; exact hr) (by rw [← e]; exact hlen) hb;rw [hlen2, ← e] at this;obtain ⟨r, h1, h2⟩ := this;refine ⟨r, Ev.step (fun k => by rw [au.j2]) ?_, h2⟩;rw [w64 (by simp at hlen; omega)];exact h1
  have J1t : ∀ {r b}, Ev (fun k => au.j2 k l counts x (pre ++ x :: suf) ((pre ++ x :: suf).length : Int) (pre.length : Int)) r → Ev (fun k => au.j1 k l counts b x (pre ++ x :: suf) ((pre ++ x :: suf).length : Int) (pre.length : Int) true) r :=
   fun h => Ev.step (fun k => by rw [au.j1]) (aj rfl h)
  have J1f : ∀ {r b}, Ev (fun k => au.j2 k l counts b (pre ++ x :: suf) ((pre ++ x :: suf).length : Int) (pre.length : Int)) r → Ev (fun k => au.j1 k l counts b x (pre ++ x :: suf) ((pre ++ x :: suf).length : Int) (pre.length : Int) false) r :=
   fun h => Ev.step (fun k => by rw [au.j1]) (br (by decide) h)
  rcases h with ⟨rfl, rfl⟩ | ⟨hm, hall⟩
  ·obtain ⟨r, h1, h2⟩ := next x (Or.inr ⟨by simp, fun y hy => by simp at hy; subst hy; exact Or.inr ⟨rfl, Int.le_refl _⟩⟩);refine ⟨r, Ev.step (fun k => by rw [au.l0]) ?_, h2⟩;rw [qe2];exact aj hlt (aj (by omega) (aj hlt (aj (by omega) h1)))
  ·have hb := hr best (by simp [hm]);have fx := hl.2 x;have fb := hl.2 best;have cx := qd1 (b := (aa l x).f1) (c := (aa l x).f2) (counts := counts) fx.2.1;have cb := qd1 (b := (aa l best).f1) (c := (aa l best).f2) (counts := counts) fb.2.1;by_cases c1 : qbd (aa l x).f0 counts < qbd (aa l best).f0 counts ∨ (qbd (aa l x).f0 counts = qbd (aa l best).f0 counts ∧ (aa l x).f0 < (aa l best).f0)
   ·obtain ⟨r, h1, h2⟩ := next x (Or.inr ⟨by simp, fun y hy => by
     rcases List.mem_append.1 hy with hy | hy
     ·have := hall y hy;unfold Leq at this ⊢;omega
     ·simp at hy; subst hy; exact Or.inr ⟨rfl, Int.le_refl _⟩⟩)
    refine ⟨r, Ev.step (fun k => by rw [au.l0]) ?_, h2⟩;rw [qe2];refine aj hlt (aj (by omega) (aj hlt (br (by omega) (aj hx.1 (aj hx.2 (cy cx (aj hb.1 (aj hb.2 (cy cb ?_)))))))));rcases c1 with c1 | c1
    ·exact aj c1 (J1t h1)
    ·refine br (by omega) ((aj c1.1 ?_));rw [decide_eq_true c1.2];exact J1t h1
   ·obtain ⟨r, h1, h2⟩ := next best (Or.inr ⟨by simp [hm], fun y hy => by
     rcases List.mem_append.1 hy with hy | hy
     ·exact hall y hy
     ·simp at hy; subst hy; unfold Leq; omega⟩)
    refine ⟨r, Ev.step (fun k => by rw [au.l0]) ?_, h2⟩;rw [qe2];refine aj hlt (aj (by omega) (aj hlt (br (by omega) (aj hx.1 (aj hx.2 (cy cx (aj hb.1 (aj hb.2 (cy cb ?_)))))))));refine br (by omega) (?_);refine jl (fun c2 => ?_) (fun _ => J1f h1);rw [decide_eq_false (by omega)];exact J1f h1
theorem qgx {l : List S116} {need : Int} {counts : List Int} (hl : Wf l) (hn : 2 ≤ need) : ∃ out r, Ev (fun k => aw.f k l need) out ∧ FitsP l need l.length out ∧ Ev (fun k => au.f k l need counts) r ∧ td l counts out r := by
 obtain ⟨out, h1, h2⟩ := qkn hl hn;have hlen := hl.1;obtain ⟨r, h3, h4⟩ := qhu (counts := counts) hl out [] (-1) (fun x hx => by
  have := h2.ok x (by simpa using hx); exact ⟨this.1, this.2.1⟩) (by have := h2.len; simp; omega) (Or.inl ⟨rfl, rfl⟩)
 refine ⟨out, r, h1, h2, ?_, h4⟩;unfold au.f;exact ec h1 h3
theorem ql1 {l : List S116} {need : Int} {counts out : List Int} {c : Int} (hf : FitsP l need l.length out) (hc : td l counts out c) : (c = -1 ∧ out = [] ∧ ∀ j : Int, 0 ≤ j → j < l.length → ¬ OkB l need j) ∨ (0 ≤ c ∧ c < l.length ∧ OkB l need c ∧ c ∈ out ∧ (∀ y ∈ out, Leq l counts c y) ∧ ∀ j : Int, 0 ≤ j → j < l.length → OkB l need j → (aa l c).f1 ≤ (aa l j).f1) := by
 rcases hc with ⟨h1, h2⟩ | ⟨h1, h2⟩
 ·exact Or.inl ⟨h2, h1, hf.none h1⟩
 ·obtain ⟨a, b, c, d⟩ := hf.ok _ h1;exact Or.inr ⟨a, b, c, h1, h2, d⟩
def HV (l : List S116) (v : List Int) (words : Int) : Prop := mj l words ∧ Wds v ∧ (v.length : Int) = words ∧ ∀ b ∈ l, rd v b.f0 = p9 b
theorem ou {l : List S116} {v : List Int} {words : Int} (h : HV l v words) : Ev (fun k => bi.f k v) (l, true) :=
 qei h.2.1 (qiu (fr := false) (by rw [h.2.2.1]; exact h.1.2) h.2.2.2) (by rw [h.2.2.1]; exact h.1)
theorem qmm {l : List S116} {v : List Int} {words i need : Int} (h : HV l v words) (hc : qa2 l i need) : HV (crv l i need) (app v (eds (aa l i) need)) words :=
 ⟨qkb h.1 hc, qj6 _ _ h.2.1 (qf8 _ _), by rw [vv]; exact h.2.2.1, qhn h.1 hc h.2.2.1 h.2.2.2⟩
theorem qmz {l : List S116} {v : List Int} {words i : Int} (h : HV l v words) (hc : Can l i) : HV (mrg l i) (v.set (aa l (fa l i)).f0.toNat (l7 (dh (mM l i)) false)) words := by
 obtain ⟨hC, hW, hlen, hH⟩ := h;obtain ⟨hB, x0, x1, hu⟩ := hc;have hi : 0 ≤ i ∧ i < l.length := ⟨x0, x1⟩;have hwd := hC.1;unfold pj at hwd;have hM := qkp hC hi hu;have ft := tr hi;have hrf := uu hB (i := fa l i) ft.1 (by omega);have hrw := sf hC.2 (j := fa l i) ft.1 (by omega);have hcm := hM.2;have hmid : mrg l i = mP l i ++ ⟨(aa l (fa l i)).f0, dh (mM l i), false⟩ :: mQ l i := by unfold mrg;rw [List.append_assoc];rfl
 rw [hmid] at hcm;have hs2 := (fq hcm ⟨(aa l (fa l i)).f0, dh (mM l i), false⟩ (by simp));dsimp only at hs2;have hwd2 : l7 (dh (mM l i)) false = 2 * dh (mM l i) := by unfold l7;rw [if_pos ⟨hs2.2.1, hs2.2.2.1⟩];simp
 rw [hwd2];have hup := wh hcm;rw [List.pairwise_append] at hup;refine ⟨hM, qb7 hW (by omega) (by omega), by rw [List.length_set]; exact hlen, ?_⟩;intro b hb;rw [hmid] at hb;have old : b ∈ l → b.f0 ≠ (aa l (fa l i)).f0 → rd (v.set (aa l (fa l i)).f0.toNat (2 * dh (mM l i))) b.f0 = p9 b := by intro hbl hne;have hbm := fq hC.2 b hbl;rw [j9 _ _ (by omega), if_neg (by omega)];exact hH b hbl
 rcases List.mem_append.1 hb with hb | hb
 ·have h1 := hup.2.2 b hb _ List.mem_cons_self;have h2 : b ∈ l := by rw [yq hi]; exact List.mem_append_left _ (List.mem_append_left _ hb)
  have h3 := fq hC.2 b h2;exact old h2 (by dsimp only at h1; omega)
 ·rcases List.mem_cons.1 hb with hb | hb
  ·rw [hb];dsimp only;rw [j9 _ _ (by omega), if_pos rfl];unfold p9;simp
  ·have h1 := (List.pairwise_cons.1 hup.2.1).1 b hb;have h2 : b ∈ l := by rw [yq hi]; exact List.mem_append_right _ hb
   exact old h2 (by dsimp only at h1; omega)
def ij (n : Int) : Int := if n < 1 ∨ n > 448 then 0 else (n + 7) / 8 + 1
theorem y5 (n : Int) : gf.f n = some (ij n) := by
 unfold gf.f ij;by_cases h1 : n < 1
 ·rw [if_pos h1, if_pos (.inl h1)]
 ·by_cases h2 : n > 448
  ·rw [if_neg h1, if_pos h2, if_pos (.inr h2)]
  ·rw [if_neg h1, if_neg h2, if_neg (by omega), w64 (n := n + 7) (by omega), qbu (by omega), w64 (n := (n + 7) / 8) (by omega), w64 (by omega)]
theorem qjf (n : Int) : ij n = 0 ∨ (2 ≤ ij n ∧ ij n ≤ 57) := by
 unfold ij;split
 ·exact .inl rfl
 ·right; omega
theorem wb {a : Int} (h : 0 ≤ a ∧ a ≤ 512) : rj a = (a + 1) * 8 := by
 unfold rj;rw [if_neg (by omega), if_neg (by omega), w64 (n := a + 1) (by omega), w64 (by omega)]
theorem qmt {l : List S116} {words : Int} (h : mj l words) (hl : l.length ≤ 1000) : Wf l := by
 refine ⟨hl, fun j => ?_⟩;have hw := h.1;unfold pj at hw;have e : aa l j = aa l (j.toNat : Int) := by unfold aa; rw [Int.toNat_natCast]
 rw [e];by_cases hj : j.toNat < l.length
 ·have := sf h.2 (j := (j.toNat : Int)) (by omega) (by omega);omega
 ·unfold aa;rw [List.getD_eq_getElem?_getD, Int.toNat_natCast, List.getElem?_eq_none (by omega)];exact ⟨by decide, by decide, by decide, by decide⟩
theorem qgb {l : List S116} {v : List Int} {words n : Int} {counts : List Int} (hV : HV l v words) (hl : l.length ≤ 1000) : ∃ r, Ev (fun k => dp.f k v n counts) r ∧ ((ij n = 0 ∧ r = ([], 0, 1)) ∨ (ij n ≠ 0 ∧ (∀ j : Int, 0 ≤ j → j < l.length → ¬ OkB l (ij n) j) ∧ r = ([], 0, 4)) ∨ (ij n ≠ 0 ∧ ∃ c, qa2 l c (ij n) ∧ r = (eds (aa l c) (ij n), ((aa l c).f0 + 1) * 8, 0))) := by
 unfold dp.f;by_cases hz : ij n = 0
 ·exact ⟨([], 0, 1), cy (y5 n) (aj hz (Ev.now _)), .inl ⟨hz, rfl⟩⟩
 ·have hn : 2 ≤ ij n := by have := qjf n; omega
  obtain ⟨out, c, _, h2, h3, h4⟩ := qgx (need := ij n) (counts := counts) (qmt hV.1 hl) hn;rcases ql1 h2 h4 with ⟨hc, _, hno⟩ | ⟨c0, c1, hok, _⟩
  ·exact ⟨_, cy (y5 n) (br hz (ec (ou hV) (aj rfl (ec h3 (aj (by omega) (Ev.now _)))))), .inr (.inl ⟨hz, hno, rfl⟩)⟩
  ·have can := (qkz hV.1 c0 c1 hn).2 hok;have hr := uu can.1 c0 c1;refine ⟨_, cy (y5 n) (br hz (ec (ou hV) (aj rfl (ec h3 (br (by omega) (ec (qet hl can) (aj c0 (aj c1 (cy (qjp _ _ _) (Ev.now _)))))))))), .inr (.inr ⟨hz, c, can, ?_⟩)⟩;rw [wb (by dsimp only; omega)]
theorem qcb (off : Int) (pre suf : List S116) (x : S116) (hx : x.f2 = true ∧ rj x.f0 = off) : ∀ i : Nat, (∀ b ∈ pre, b.f2 = true → rj b.f0 ≠ off) → r6 off (pre ++ x :: suf) i = ((i + pre.length : Nat) : Int) := by
 induction pre with
 | nil =>
  intro i _;show (if (x.f2 && decide (rj x.f0 = off)) = true then (i : Int) else r6 off suf (i + 1)) = _;rw [if_pos (by simp [hx.1, hx.2])];rfl
 | cons y pre ih =>
  intro i h;show (if (y.f2 && decide (rj y.f0 = off)) = true then (i : Int) else r6 off (pre ++ x :: suf) (i + 1)) = _;rw [if_neg, ih (i + 1) (fun b hb => h b (List.mem_cons_of_mem _ hb)), List.length_cons]
  ·omega
  ·have := h y List.mem_cons_self;simp only [Bool.and_eq_true, decide_eq_true_eq];exact fun hh => this hh.1 hh.2
theorem xn (off : Int) (l : List S116) : ∀ i : Nat, (∀ b ∈ l, b.f2 = true → rj b.f0 ≠ off) → r6 off l i = -1 := by
 induction l with
 | nil => intro i _; rfl
 | cons y l ih =>
  intro i h;show (if (y.f2 && decide (rj y.f0 = off)) = true then (i : Int) else r6 off l (i + 1)) = _;rw [if_neg, ih (i + 1) (fun b hb => h b (List.mem_cons_of_mem _ hb))];have := h y List.mem_cons_self;simp only [Bool.and_eq_true, decide_eq_true_eq];exact fun hh => this hh.1 hh.2
theorem qd0 {l : List S116} {words c off : Int} (h : mj l words) (h0 : 0 ≤ c) (h1 : c < l.length) (hu : (aa l c).f2 = true) (ho : off = ((aa l c).f0 + 1) * 8) : r6 off l 0 = c := by
 have hl := yv h0 h1;have hw := h.1;unfold pj at hw;have hr := sf h.2 h0 h1;have hup := wh h.2;rw [hl, List.pairwise_append] at hup;have := qcb off (l.take c.toNat) (l.drop (c.toNat + 1)) (aa l c) ⟨hu, by rw [wb (by omega), ho]⟩ 0 (fun b hb _ => by
  have h2 := hup.2.2 b hb _ List.mem_cons_self;have h3 := fq h.2 b (List.mem_of_mem_take hb);rw [wb (by omega), ho];omega)
 rw [← hl] at this;rw [this, List.length_take];omega
theorem qfs {l : List S116} {v : List Int} {words : Int} (hV : HV l v words) (off : Int) : Ev (fun k => gx.f k v off) (l, r6 off l 0) := by
 unfold gx.f;exact ec (ou hV) (Ev.now _)
theorem qnq {l : List S116} {v : List Int} {words : Int} (hV : HV l v words) : l.length ≠ 0 := by
 intro e;have hw := hV.1.1;unfold pj at hw;have hl := List.eq_nil_of_length_eq_zero e;have hc := hV.1.2;rw [hl] at hc;have hc : (0 : Int) = words := hc;omega
theorem qgr {l : List S116} {v : List Int} {words c off : Int} (hV : HV l v words) (hl : l.length ≤ 1000) (h0 : 0 ≤ c) (h1 : c < l.length) (hu : (aa l c).f2 = true) (ho : off = ((aa l c).f0 + 1) * 8) : Ev (fun k => ia.f k v off) ([⟨(aa l (fa l c)).f0, l7 (dh (mM l c)) false⟩], 0) := by
 have hne := qnq hV;have can := qjw hV.1 ⟨h0, h1⟩ hu;have hf := qfs hV off;rw [qd0 hV.1 h0 h1 hu ho] at hf;unfold ia.f;exact ec hf (br (by dsimp only; omega) (ec (qhs hl can) (aj rfl (Ev.now _))))
theorem qir {W : Int} (hM : pj W) : HV [(⟨0, W, false⟩ : S116)] ((List.replicate W.toNat 0).set 0 (2 * W)) W := by
 unfold pj at hM;have hlen : (((List.replicate W.toNat (0 : Int)).set 0 (2 * W)).length : Int) = W := by rw [List.length_set, List.length_replicate]; omega
 refine ⟨⟨hM, rfl, by dsimp only; omega, by dsimp only; omega, by dsimp only; omega, fun h => (by cases h), ?_⟩, ⟨by omega, fun j => ?_⟩, hlen, fun b hb => ?_⟩
 ·show 0 + W = W;omega
 ·rw [j9 _ _ (by rw [List.length_replicate]; omega), qmh];split <;> omega
 ·rw [List.mem_singleton.1 hb];dsimp only;rw [j9 _ _ (by rw [List.length_replicate]; omega), if_pos (show (0 : Int).toNat = 0 from rfl)];unfold p9;simp
theorem qfr {l : List S116} {words : Int} (h : mj l words) : l.length ≤ 256 := by
 have hw := h.1;unfold pj at hw;have := qbt h.2;omega
theorem qch {l : List S116} {x : S116} (h : x ∈ l) : ∃ c : Int, 0 ≤ c ∧ c < l.length ∧ aa l c = x := by
 obtain ⟨n, hn, e⟩ := List.getElem_of_mem h;refine ⟨n, by omega, by omega, ?_⟩;obtain ⟨_, e2⟩ := th (l := l) (j := (n : Int)) (by omega) (by omega);rw [e2, ← e];rfl
def rdB (v : List Int) (o : Int) : Nat → List Int
 | 0 => []
 | n + 1 => qi7 v o :: rdB v (o + 1) n
theorem qj4 (v : List Int) : ∀ (n : Nat) (o : Int), (rdB v o n).length = n := by
 intro n
 induction n with
 | zero => intro o; rfl
 | succ n ih => intro o; show (rdB v (o + 1) n).length + 1 = n + 1; rw [ih]
theorem qle {w : List Int} {off n : Int} (hw : w.length ≤ 2000) (hn : 0 ≤ n ∧ n ≤ 448) (ho : 0 ≤ off ∧ off + n ≤ w.length * 8) (d : Nat) : ∀ (acc : List Int) (i : Int), 0 ≤ i → i + d = off + n → acc.length + d ≤ 1000 → Ev (fun k => dz.l0 k w off n acc i) (acc ++ rdB w i d, true) := by
 induction d with
 | zero =>
  intro acc i h0 h1 h2;have e : ¬ i < wrap64 (off + n) := by rw [w64 (by omega)]; omega
  refine Ev.step (fun k => by rw [dz.l0]) ?_;exact br e (qal (by show (acc, true) = (acc ++ [], true); rw [List.append_nil]))
 | succ d ih =>
  intro acc i h0 h1 h2;have e : i < wrap64 (off + n) := by rw [w64 (by omega)]; omega
  have h3 := ih (acc ++ [qi7 w i]) (i + 1) (by omega) (by omega) (by simp; omega);rw [List.append_assoc] at h3;refine Ev.step (fun k => by rw [dz.l0]) ?_;rw [qbu h0, zf h0, w64 (n := i / 8) (by omega), w64 (n := i % 8 * 8) (by omega), w64 (n := i + 1) (by omega)];exact aj e (aj (by omega) (aj (by omega) (aj (by omega) (aj (by omega) h3))))
theorem qfq {w : List Int} {o n : Int} (hw : w.length ≤ 2000) (h : 0 ≤ n ∧ n ≤ 448 ∧ 0 ≤ o ∧ o + n ≤ w.length * 8) : gn.f w o n = some true := by
 unfold gn.f;rw [if_pos h.2.2.1, if_pos h.1, if_pos h.2.1, w64 (n := (w.length : Int) * 8) (by omega), w64 (by omega), decide_eq_true (by omega)]
theorem qaq {o n : Int} {x : S116} (hx : 0 ≤ x.f0 ∧ 0 ≤ x.f1 ∧ x.f0 + x.f1 ≤ 512) (hn : 0 ≤ n ∧ n ≤ 448) : n5 o n x = (x.f2 && (decide ((x.f0 + 1) * 8 ≤ o) && decide (o ≤ (x.f0 + x.f1) * 8 - n))) := by
 unfold n5;rw [wb (by omega), w64 (n := x.f0 + x.f1) (by omega), w64 (n := (x.f0 + x.f1) * 8) (by omega), w64 (n := (x.f0 + x.f1) * 8 - n) (by omega)]
theorem js {l : List S116} {v : List Int} {words : Int} (hV : HV l v words) {b : S116} (hb : b ∈ l) : 0 ≤ b.f0 ∧ 2 ≤ b.f1 ∧ b.f0 + b.f1 ≤ words ∧ words ≤ 512 := by
 have h1 := fq hV.1.2 b hb;have h2 := hV.1.1;unfold pj at h2;omega
theorem qd7 {l : List S116} {v : List Int} {words o n : Int} (hV : HV l v words) : ∃ r, Ev (fun k => ic.f k v o n) r ∧ (r = true ↔ 0 ≤ n ∧ n ≤ 448 ∧ ∃ b ∈ l, b.f2 = true ∧ (b.f0 + 1) * 8 ≤ o ∧ o ≤ (b.f0 + b.f1) * 8 - n) := by
 unfold ic.f;by_cases h0 : n < 0
 ·exact ⟨false, aj h0 (Ev.now _), ⟨fun h => (by cases h), fun h => (by omega)⟩⟩
 ·by_cases h1 : n > 448
  ·exact ⟨false, br h0 (aj h1 (Ev.now _)), ⟨fun h => (by cases h), fun h => (by omega)⟩⟩
  ·refine ⟨l.any (n5 o n), br h0 (br h1 (ec (ou hV) (Ev.now _))), ?_⟩;rw [List.any_eq_true];constructor
   ·rintro ⟨x, hx, hh⟩;have hg := js hV hx;rw [qaq (by omega) (by omega)] at hh;simp only [Bool.and_eq_true, decide_eq_true_eq] at hh;exact ⟨by omega, by omega, x, hx, hh.1, hh.2.1, hh.2.2⟩
   ·rintro ⟨_, _, x, hx, h2, h3, h4⟩;have hg := js hV hx;refine ⟨x, hx, ?_⟩;rw [qaq (by omega) (by omega)];simp only [Bool.and_eq_true, decide_eq_true_eq];exact ⟨h2, h3, h4⟩
theorem qfv {l : List S116} {v : List Int} {words o n : Int} {r : Bool} (hV : HV l v words) (h : Ev (fun k => ic.f k v o n) r) : Ev (fun k => gi.f k v o n) (if r = true then 0 else 1) := by
 unfold gi.f;refine ec (ou hV) (aj rfl (ec h ?_));cases r
 ·exact br (by decide) (Ev.now _)
 ·exact aj rfl (Ev.now _)
theorem qlh {l : List S116} {v : List Int} {words o n : Int} (hV : HV l v words) (hn : 0 ≤ n ∧ n ≤ 448) (hb : ∃ b ∈ l, b.f2 = true ∧ (b.f0 + 1) * 8 ≤ o ∧ o ≤ (b.f0 + b.f1) * 8 - n) : Ev (fun k => j6.f k v o n) (rdB v o n.toNat, 0) := by
 obtain ⟨r, h1, h2⟩ := qd7 (o := o) (n := n) hV;have e : r = true := h2.2 ⟨hn.1, hn.2, hb⟩;subst e;obtain ⟨b, hbl, hbu, h3, h4⟩ := hb;have hg := js hV hbl;have hlen := hV.2.2.1;have h5 : 0 ≤ o ∧ o + n ≤ (v.length : Int) * 8 := by omega
 have h6 := qle (w := v) (off := o) (n := n) hV.2.1.1 hn h5 n.toNat [] o h5.1 (by omega) (by simp; omega);have h7 : Ev (fun k => dz.f k v o n) (rdB v o n.toNat, true) := by unfold dz.f;exact cy (qfq hV.2.1.1 ⟨hn.1, hn.2, h5.1, h5.2⟩) (aj rfl h6)
 unfold j6.f;exact ec (qfv hV h1) (aj rfl (ec h7 (Ev.now _)))
theorem qji {l : List S116} {words : Int} (hC : mj l words) {x y : S116} (hx : x ∈ l) (hy : y ∈ l) : x = y ∨ x.f0 + x.f1 ≤ y.f0 ∨ y.f0 + y.f1 ≤ x.f0 := by
 obtain ⟨i, i0, i1, ei⟩ := qch hx;obtain ⟨j, j0, j1, ej⟩ := qch hy;by_cases e : i = j
 ·left; rw [← ei, ← ej, e]
 ·right;by_cases h : i < j
  ·left; rw [← ei, ← ej]; exact qcz hC.2 i0 h j1
  ·right; rw [← ei, ← ej]; exact qcz hC.2 j0 (by omega) i1
def putAt (V : List Int) (j c : Int) : List Int := V.set (j / 8).toNat (qba (rd V (j / 8)) c (j % 8 * 8))
theorem qik {V : List Int} {j c q : Int} (hV : Wds V) (hj : 0 ≤ j ∧ j < V.length * 8) (hq : 0 ≤ q) : rd (putAt V j c) q = if q = j / 8 then qba (rd V (j / 8)) c (j % 8 * 8) else rd V q := by
 unfold putAt;rw [j9 _ _ (by omega)];by_cases h : q = j / 8
 ·rw [if_pos h, if_pos (by omega)]
 ·rw [if_neg h, if_neg (by omega)]
theorem qhh {V : List Int} {j c : Int} (hV : Wds V) (hc : 0 ≤ c ∧ c ≤ 255) : Wds (putAt V j c) := by
 have h := (xd (hV.2 (j / 8)) hc (i := j % 8) (j := 0) (by omega) (by omega)).1;exact qb7 hV h.1 h.2
def l8 (V B : List Int) (o : Int) : Nat → List Int
 | 0 => V
 | n + 1 => putAt (l8 V B o n) (o + n) (rd B n)
theorem qak (V B : List Int) (o : Int) : ∀ n, (l8 V B o n).length = V.length := by
 intro n
 induction n with
 | zero => rfl
 | succ n ih => show (List.set _ _ _).length = _; rw [List.length_set, ih]
def Bys (B : List Int) : Prop := ∀ j : Int, 0 ≤ rd B j ∧ rd B j ≤ 255
theorem qaw {V B : List Int} {o : Int} (hV : Wds V) (hB : Bys B) : ∀ n, Wds (l8 V B o n) := by
 intro n
 induction n with
 | zero => exact hV
 | succ n ih => exact qhh ih (hB n)
theorem qbz {V B : List Int} {o : Int} (hV : Wds V) (hB : Bys B) (ho : 0 ≤ o) : ∀ n : Nat, o + n ≤ V.length * 8 → ∀ q : Int, 0 ≤ q → (q < o / 8 ∨ (o + n + 7) / 8 ≤ q) → rd (l8 V B o n) q = rd V q := by
 intro n
 induction n with
 | zero => intro h q hq hh; rfl
 | succ n ih =>
  intro h q hq hh;show rd (putAt (l8 V B o n) (o + n) (rd B n)) q = _;rw [qik (qaw hV hB n) (by rw [qak]; omega) hq, if_neg (by omega), ih (by omega) q hq (by omega)]
def qc5 (y : List S160) (c s : Int) : List S160 :=
 y.set (((y.length : Int) - 1) : Int).toNat (⟨(bo y ((y.length : Int) - 1)).f0, Go.bits .or .u64 (Go.bits .andNot .u64 ((bo y ((y.length : Int) - 1)).f1) (shl .u64 255 s)) (shl .u64 (IntKind.u64.wrap c) s)⟩ : S160)
theorem y3 (pre : List S160) (x : S160) (c s : Int) : qc5 (pre ++ [x]) c s = pre ++ [(⟨x.f0, qba x.f1 c s⟩ : S160)] := by
 have e : (((pre ++ [x]).length : Int) - 1) = (pre.length : Int) := by simp
 have e2 : bo (pre ++ [x]) (pre.length : Int) = x := qfl pre [] x;unfold qc5;rw [e, e2, Int.toNat_natCast, List.set_append_right _ _ (Nat.le_refl _), Nat.sub_self];rfl
theorem y1 (v : List Int) (pre : List S160) (q x : Int) (hq : 0 ≤ q ∧ q < v.length) : app v (pre ++ [(⟨q, x⟩ : S160)]) = (app v pre).set q.toNat x := by
 rw [qf6];show (if 0 ≤ q ∧ q < ((app v pre).length : Int) then (app v pre).set q.toNat x else app v pre) = _;rw [if_pos (by rw [vv]; omega)]
def Eds (v B : List Int) (o : Int) (acc : List S160) (i : Nat) : Prop :=
 app v acc = l8 v B o i ∧ acc.length ≤ i ∧ ((i = 0 ∧ acc = []) ∨ (0 < i ∧ ∃ pre x, acc = pre ++ [(⟨(o + i - 1) / 8, x⟩ : S160)]))
theorem qig {v B : List Int} {o : Int} {acc : List S160} {i : Nat} (hV : Wds v) (hB : Bys B) (ho : 0 ≤ o) (hl : o + i < v.length * 8) (h : Eds v B o acc i) : ((acc = [] ∨ ∃ pre x, acc = pre ++ [(⟨(o + i - 1) / 8, x⟩ : S160)] ∧ (o + i - 1) / 8 ≠ (o + i) / 8) → Eds v B o (qc5 (acc ++ [(⟨(o + i) / 8, rd v ((o + i) / 8)⟩ : S160)]) (rd B i) ((o + i) % 8 * 8)) (i + 1)) ∧ ((∃ pre x, acc = pre ++ [(⟨(o + i - 1) / 8, x⟩ : S160)] ∧ (o + i - 1) / 8 = (o + i) / 8) → Eds v B o (qc5 acc (rd B i) ((o + i) % 8 * 8)) (i + 1)) := by
 obtain ⟨h1, h2, h3⟩ := h;have e1 : o + ((i + 1 : Nat) : Int) - 1 = o + i := by omega
 have hput : l8 v B o (i + 1) = (l8 v B o i).set ((o + i) / 8).toNat (qba (rd (l8 v B o i) ((o + i) / 8)) (rd B i) ((o + i) % 8 * 8)) := rfl;constructor
 ·intro hc;have hr : rd (l8 v B o i) ((o + i) / 8) = rd v ((o + i) / 8) := by
   rcases hc with hc | ⟨pre, x, _, hc⟩
   ·rcases h3 with ⟨h3, _⟩ | ⟨_, pre, x, h3⟩
    ·subst h3; rfl
    ·rw [hc] at h3; simp at h3
   ·exact qbz hV hB ho i (by omega) _ (by omega) (.inr (by omega))
  rw [y3];refine ⟨(y1 v acc ((o + i) / 8) _ ⟨by omega, by omega⟩).trans ?_, by simp; omega, .inr ⟨by omega, acc, _, by rw [e1]⟩⟩;rw [h1, hput, hr]
 ·rintro ⟨pre, x, hc, hd⟩;have hl2 : (app v pre).length = v.length := vv pre v;have hx : rd (l8 v B o i) ((o + i) / 8) = x := by rw [← h1, hc, y1 _ _ _ _ (by omega), j9 _ _ (by rw [hl2]; omega), if_pos (by omega)]
  rw [hc, y3];refine ⟨?_, by rw [hc] at h2; simp at h2 ⊢; omega, .inr ⟨by omega, pre, qba x (rd B i) ((o + i) % 8 * 8), by rw [e1, hd]⟩⟩;dsimp only;rw [hd, y1 _ _ _ _ (by omega), hput, hx, ← h1, hc, hd, y1 _ _ _ _ (by omega), List.set_set]
theorem qmb {t : List Int} {s r : Int} (hm : yk t s) (h0 : 0 ≤ r) (hz : rd t r = 0) (d : Nat) : ∀ j : Int, j = r + d → j < t.length → rd t j = 0 := by
 induction d with
 | zero => intro j h1 h2; rw [show j = r from by omega]; exact hz
 | succ d ih =>
  intro j h1 h2;have h3 := ih (j - 1) (by omega) (by omega);have h4 := (hm.2 j (by omega) h2).2 (by omega);by_cases h5 : rd t j = 0
  ·exact h5
  ·exact absurd h3 (h4 h5)
theorem qka {t : List Int} {s r v : Int} (hm : yk t s) (h0 : 0 ≤ r) (h1 : r < t.length) (_hz : rd t r = 0) (hn : ∀ j : Int, 0 ≤ j → j < r → rd t j ≠ 0) (hv : 0 < v) (hv2 : v ≤ s + 1) : yk (t.set r.toNat v) s := by
 refine ⟨hm.1, fun j j0 j1 => ?_⟩;rw [List.length_set] at j1;have hg := hm.2 j j0 j1;constructor
 ·rw [j9 _ _ (by omega)];by_cases c : j.toNat = r.toNat
  ·rw [if_pos c]; exact hv2
  ·rw [if_neg c]; exact hg.1
 ·intro hj;rw [j9 _ _ (by omega), j9 _ _ (by omega)];by_cases c2 : (j - 1).toNat = r.toNat
  ·rw [if_pos c2]; intro _; omega
  ·rw [if_neg c2];by_cases c : j.toNat = r.toNat
   ·intro _; exact hn (j - 1) (by omega) (by omega)
   ·rw [if_neg c]; exact hg.2 hj
theorem qgj {t : List Int} {s b q v : Int} {r : Nat} (hr : r < t.length) (hp : od t s b q) (hv : v ≠ b + 1) (hz : rd t r ≠ b + 1) : od (t.set r v) s b q := by
 have key : ∀ j : Int, 0 ≤ j → (rd (t.set r v) j = b + 1 ↔ rd t j = b + 1) := by
  intro j j0;rw [j9 _ _ hr];by_cases c : j.toNat = r
  ·rw [if_pos c];have : j = (r : Int) := by omega
   rw [this];exact ⟨fun h => absurd h hv, fun h => absurd h hz⟩
  ·rw [if_neg c]
 rcases hp with ⟨i, i0, i1, i2, i3, i4⟩ | ⟨i0, i1⟩
 ·exact Or.inl ⟨i, i0, by rw [List.length_set]; exact i1, (key i i0).2 i2, fun j j0 j1 h => i3 j j0 (by rw [List.length_set] at j1; exact j1) ((key j (by omega)).1 h), i4⟩
 ·exact Or.inr ⟨fun j j0 j1 h => i0 j j0 (by rw [List.length_set] at j1; exact j1) ((key j j0).1 h), i1⟩
theorem qbo {n m l : Int} (h : mi n m) (h0 : 0 ≤ l) (h1 : l < n) : qly n m (gj n m l) = l := by
 have ht := qf5 h;have e : ((l + iw n m) % n + n - iw n m) % n = l := by rw [show (l + iw n m) % n + n - iw n m = (l + iw n m) % n + (n - iw n m) from by omega, Int.emod_add_emod, show l + iw n m + (n - iw n m) = l + n from by omega, Int.add_emod_right];exact Int.emod_eq_of_lt h0 h1
 unfold qly gj;by_cases hc : i8 n m ≤ (l + iw n m) % n
 ·rw [if_pos hc, if_pos (by omega), show (l + iw n m) % n + 1 - 1 + n - iw n m = (l + iw n m) % n + n - iw n m from by omega]; exact e
 ·rw [if_neg hc, if_neg (by omega)]; exact e
theorem qcf {n m l : Int} (h : mi n m) : 0 ≤ gj n m l ∧ gj n m l ≤ n ∧ gj n m l ≠ i8 n m := by
 have hp := qbe (m := l + iw n m) (n := n) h.1;have hg := sd h;unfold gj;by_cases hc : i8 n m ≤ (l + iw n m) % n
 ·rw [if_pos hc]; omega
 ·rw [if_neg hc]; omega
theorem qjq {n m fr : Int} (M : mi n m) (hfr : fr = if i8 n m = 0 then n else i8 n m - 1) : i8 n (m + 1) = fr ∧ ∀ l, 0 ≤ l → l < n → (gj n m l = fr → gj n (m + 1) l = i8 n m) ∧ (gj n m l ≠ fr → gj n m l = gj n (m + 1) l) := by
 have hn : 1 ≤ n ∧ n ≤ 100000 := ⟨M.1, M.2.1⟩;have hg := sd M;have hr := qbe (m := m) (n := n + 1) (by omega);by_cases hc : m % (n + 1) + 1 ≤ n
 ·obtain ⟨e1, e2⟩ := qk1 hn.1 (show (0 : Int) ≤ 1 by omega) hc;have hg0 : i8 n m ≠ 0 := by unfold i8; omega
  rw [if_neg hg0] at hfr;have e3 : i8 n (m + 1) = fr := by rw [hfr]; unfold i8; rw [e1]; omega
  refine ⟨e3, fun l h0 h1 => ?_⟩;have hp := qlt (m := m) (l := l) hn.1;rw [wu n m l, wu n (m + 1) l, e2 l, e1];unfold i8 at hfr ⊢;by_cases c1 : n - m % (n + 1) ≤ rx n m l
  ·rw [if_pos c1, if_pos (by omega)]; omega
  ·rw [if_neg c1];by_cases c2 : n - (m % (n + 1) + 1) ≤ rx n m l
   ·rw [if_pos c2]; omega
   ·rw [if_neg c2]; omega
 ·obtain ⟨e1, e2⟩ := qki hn.1 (Int.not_le.1 hc) (show (1 : Int) ≤ n + 1 by omega);have hg0 : i8 n m = 0 := by unfold i8; omega
  rw [if_pos hg0] at hfr;have e3 : i8 n (m + 1) = fr := by rw [hfr]; unfold i8; rw [e1]; omega
  refine ⟨e3, fun l h0 h1 => ?_⟩;have hp := qlt (m := m) (l := l) hn.1;rw [hg0, wu n m l, wu n (m + 1) l, e2 l, e1, if_pos (show n - m % (n + 1) ≤ rx n m l by omega)];by_cases c1 : rx n m l + 1 = n
  ·rw [if_pos c1, if_neg (by omega)]; omega
  ·rw [if_neg c1, if_neg (by omega)]; omega
theorem qi0 {n m l k : Int} (M : mi n m) (h0 : 0 ≤ l) (h1 : l < n) (k0 : 0 ≤ k) (k1 : k < n) (e : gj n m l = gj n m k) : l = k := by
 have := qbo M h0 h1;rw [e, qbo M k0 k1] at this;exact this.symm
theorem qar {t : List Int} {s b v : Int} {r : Nat} (hr : r < t.length) (hz : rd t r = 0) (hb : 0 ≤ b) (hv : v ≠ b + 1) : fj (t.set r v) s b = fj t s b :=
 ta (ly _ _ _) (qgj hr (ly t s b) hv (by omega))
theorem qff {t : List Int} {s a : Int} {r : Nat} (hr : r < t.length) (hz : ∀ j : Int, (r : Int) < j → j < t.length → rd t j = 0) (ha : 0 ≤ a) : fj (t.set r (a + 1)) s a = s + r := by
 refine ta (ly _ _ _) (.inl ⟨r, by omega, by rw [List.length_set]; omega, by rw [j9 _ _ hr, if_pos (by omega)], fun j j0 j1 => ?_, rfl⟩);rw [List.length_set] at j1;rw [j9 _ _ hr, if_neg (by omega), hz j j0 j1];omega
theorem qfi {t : List Int} {s a : Int} {r : Nat} (hz : rd t r = 0) (ha : 0 ≤ a) (has : a < s) : fj t s a ≠ s + r := by
 rcases ly t s a with ⟨i, i0, i1, i2, i3, i4⟩ | ⟨_, i1⟩
 ·intro e;have : i = r := by omega
  rw [this, hz] at i2;omega
 ·omega
theorem qb3 {t : List Int} {s a : Int} (ha : 0 ≤ a) (has : a < s) : 0 ≤ fj t s a ∧ fj t s a < s + t.length := by
 rcases ly t s a with ⟨i, i0, i1, i2, i3, i4⟩ | ⟨_, i1⟩ <;> omega
theorem qgl {t : List Int} {s a b : Int} (ha : 0 ≤ a ∧ a < s) (hb : 0 ≤ b ∧ b < s) : fj t s a = fj t s b ↔ a = b := qi2 ha hb (ly t s a) (ly t s b)
end Go.Proofs.YtmfhaliclnnbaaaGreat.Pl
