-- printed by wip/xprint.py
import Derived.Test.YtglekonhdjploaaXImageFormsx0
import Derived.Test.YtglekonhdjploaaXImageFormsx1
namespace Go.Proofs.Ytglekonhdjploaa.XImageForms
open Go.RowKit Go.Proofs.YtglekonhdjploaaW.PrintWords Go.Proofs.YtglekonhdjploaaW.PrintLast Go.Proofs.YtglekonhdjploaaW.PrintMore
attribute [local go_sem] max2_int min2_int max_two min_two max_three min_three max_four min_four
set_option linter.unusedVariables false
set_option linter.unusedSimpArgs false

attribute [local go_sem high] eqA30
/-! ### darningref4_SameEdits: function 25 -/
def darningref4_SameEdits.l0 : Nat → List (S30) → List (S30) → Int → Int → Option (Bool)
 | 0, _, _, _, _ => none
 | k + 1, x0, x1, x12, x13 => if x13 < x12 then (if 0 ≤ x13 then (if x13 < (x0.length : Int) then (if x13 < (x1.length : Int) then (if (!(((rd_T30 x0 x13).f0) == ((rd_T30 x1 x13).f0)) || (!(((rd_T30 x0 x13).f1) == ((rd_T30 x1 x13).f1)))) = true then (some false) else (darningref4_SameEdits.l0 k x0 x1 x12 (wrap64 (x13 + 1)))) else (none)) else (none)) else (none)) else (some true)
def darningref4_SameEdits.f (k : Nat) (l0 : List (S30)) (l1 : List (S30)) : Option (Bool) := if (l0.length : Int) = (l1.length : Int) then (darningref4_SameEdits.l0 k l0 l1 (l0.length : Int) 0) else (some false)
theorem darningref4_SameEdits.mono_l : ∀ k, (∀ y0 y1 y2 y3, LeO (darningref4_SameEdits.l0 k y0 y1 y2 y3) (darningref4_SameEdits.l0 (k + 1) y0 y1 y2 y3))
 | 0 => fun _ _ _ _ r h => by simp [darningref4_SameEdits.l0] at h
 | k + 1 => by
  have ih0 := darningref4_SameEdits.mono_l k
  ·
   intro y0 y1 y2 y3
   unfold darningref4_SameEdits.l0
   repeat' first
   | (with_reducible exact ih0 _ _ _ _)
   | (with_reducible exact LeO.refl _)
   | (with_reducible exact LeO.none _)
   | (with_reducible refine LeO.ite ?_ ?_)
   | (with_reducible refine LeO.bind ?_ (fun _ => ?_))
   | exact ih0 _ _ _ _
   | exact LeO.none _
   | refine LeO.ite ?_ ?_
   | refine LeO.bind ?_ (fun _ => ?_)
theorem darningref4_SameEdits.mono : ∀ a0 a1 k, LeO (darningref4_SameEdits.f k a0 a1) (darningref4_SameEdits.f (k + 1) a0 a1) := by
 intro a0 a1 k
 have ih0 := darningref4_SameEdits.mono_l k
 unfold darningref4_SameEdits.f
 repeat' first
   | (with_reducible exact ih0 _ _ _ _)
   | (with_reducible exact LeO.refl _)
   | (with_reducible exact LeO.none _)
   | (with_reducible refine LeO.ite ?_ ?_)
   | (with_reducible refine LeO.bind ?_ (fun _ => ?_))
   | exact ih0 _ _ _ _
   | exact LeO.none _
   | refine LeO.ite ?_ ?_
   | refine LeO.bind ?_ (fun _ => ?_)
set_option maxHeartbeats 8000000 in
set_option maxRecDepth 100000 in
theorem darningref4_SameEdits.calls (k : Nat) (A0 : Option Addr) (c0 : Nat) (l0 : List (S30)) (A1 : Option Addr) (c1 : Nat) (l1 : List (S30)) (r : Bool) (w : World) (hr0 : Kd.C k30 w A0 l0.length l0) (hc0 : l0.length ≤ c0) (hr1 : Kd.C k30 w A1 l1.length l1) (hc1 : l1.length ≤ c1) (h : darningref4_SameEdits.f k l0 l1 = some r) :
  Calls Try.prog 25 #[.slice A0 l0.length c0, .slice A1 l1.length c1] w fun e w' => e = .returned (.bool r) ∧ Drawn0 w w' := by
 have hu30 := Try.underlying30
 have HR0 := Aside0.mk hr0
 have HC0 := Aside0.mk hc0
 clear hr0 hc0
 have HR1 := Aside0.mk hr1
 have HC1 := Aside0.mk hc1
 clear hr1 hc1
 have H : (if (l0.length : Int) = (l1.length : Int) then (darningref4_SameEdits.l0 k l0 l1 (l0.length : Int) 0) else (some false)) = some r := h
 clear h
 by_cases c3 : (l0.length : Int) = (l1.length : Int)
 rotate_left
 ·
  rw [if_neg c3] at H
  have c3b0 : ((l0.length : Int) == (l1.length : Int)) = false := beq_eq_false_iff_ne.mpr c3
  have c3b1 : ((l0.length : Int) != (l1.length : Int)) = true := bne_iff_ne.mpr c3
  have c3b2 : (l0.length == l1.length) = false := by first | simpa using c3 | (simp at c3 ⊢; omega)
  obtain rfl := Option.some.inj H
  go_enter Try.func25, Try.ntmps25
  go_wp2
  repeat (go_quiet (fail); try go_wp2)
  go_ret
  exact ⟨by first | rfl | (simp; done) | (simp [*]; done), by repeat (first | exact Drawn0.refl _ | apply Drawn0.step)⟩
 rw [if_pos c3] at H
 have c3b0 : ((l0.length : Int) == (l1.length : Int)) = true := beq_iff_eq.mpr c3
 have c3b1 : ((l0.length : Int) != (l1.length : Int)) = false := bne_eq_false_iff_eq.mpr c3
 have c3b2 : (l0.length == l1.length) = true := by first | simpa using c3 | (simp at c3 ⊢; omega)
 clear c3
 have H' := Aside0.mk H
 clear H
 go_enter Try.func25, Try.ntmps25
 go_wp2
 repeat (go_quiet (fail); try go_wp2)
 go_loopg [13] k (fun kq v13 w' => ∃ (x13_1 : Int), v13 = .int .i64 x13_1 ∧ Aside0 (darningref4_SameEdits.l0 kq l0 l1 (l0.length : Int) x13_1 = some r) ∧ Aside0 (kq ≤ k) ∧ Drawn0 w w')
 case atStart => exact ⟨(0), (by first | rfl | (simp; done) | (simp [*]; done)), H', ⟨Nat.le_refl _⟩, by repeat (first | exact Drawn0.refl _ | apply Drawn0.step)⟩
 case round =>
  clear H'
  try clear c1
  try clear c2
  try clear p2
  try clear c3
  try clear c3b0
  try clear c3b1
  try clear c3b2
  obtain ⟨x13_1, rfl, HA, HK1, ⟨m1, rfl⟩⟩ := hrel
  cases gk with
  | zero => exact absurd HA.out (by simp [darningref4_SameEdits.l0])
  | succ k1 =>
   have H := HA.out
   clear HA
   simp only [darningref4_SameEdits.l0] at H
   by_cases c4 : x13_1 < (l0.length : Int)
   rotate_left
   ·
    rw [if_neg c4] at H
    have c4b0 : decide (x13_1 < (l0.length : Int)) = false := decide_eq_false c4
    clear c4
    obtain rfl := Option.some.inj H
    go_wp2
    repeat (go_quiet (fail); try go_wp2)
    go_ret
    exact ⟨by first | rfl | (simp; done) | (simp [*]; done), by repeat (first | exact Drawn0.refl _ | apply Drawn0.step)⟩
   rw [if_pos c4] at H
   have c4b0 : decide (x13_1 < (l0.length : Int)) = true := decide_eq_true c4
   clear c4
   by_cases c5 : 0 ≤ x13_1
   rotate_left
   ·
    rw [if_neg c5] at H
    exact absurd H (by simp)
   rw [if_pos c5] at H
   have c5b0 : decide (0 ≤ x13_1) = true := decide_eq_true c5
   clear c5
   by_cases c6 : x13_1 < (l0.length : Int)
   rotate_left
   ·
    rw [if_neg c6] at H
    exact absurd H (by simp)
   rw [if_pos c6] at H
   have c6b0 : decide (x13_1 < (l0.length : Int)) = true := decide_eq_true c6
   clear c6
   by_cases c7 : x13_1 < (l1.length : Int)
   rotate_left
   ·
    rw [if_neg c7] at H
    exact absurd H (by simp)
   rw [if_pos c7] at H
   have c7b0 : decide (x13_1 < (l1.length : Int)) = true := decide_eq_true c7
   clear c7
   by_cases c8 : (!(((rd_T30 l0 x13_1).f0) == ((rd_T30 l1 x13_1).f0)) || (!(((rd_T30 l0 x13_1).f1) == ((rd_T30 l1 x13_1).f1)))) = true
   ·
    rw [if_pos c8] at H
    have c8b0 : (!(((rd_T30 l0 x13_1).f0) == ((rd_T30 l1 x13_1).f0)) || (!(((rd_T30 l0 x13_1).f1) == ((rd_T30 l1 x13_1).f1)))) = true := c8
    clear c8
    obtain rfl := Option.some.inj H
    have p101 : 0 ≤ (x13_1 : Int) := zu
    have q101 : x13_1 < (l0.length : Int) := zu
    obtain ⟨ad101, e101, hx101_0, hx101_1⟩ := at_T30 HR0.out x13_1 p101 q101
    cases e101
    replace p101 := eq_true p101
    replace q101 := eq_true q101
    have p102 : 0 ≤ (x13_1 : Int) := zu
    have q102 : x13_1 < (l1.length : Int) := zu
    obtain ⟨ad102, e102, hx102_0, hx102_1⟩ := at_T30 HR1.out x13_1 p102 q102
    cases e102
    replace p102 := eq_true p102
    replace q102 := eq_true q102
    go_wp2
    repeat (go_quiet (fail); try go_wp2)
    go_ret
    exact ⟨by first | rfl | (simp; done) | (simp [*]; done), by repeat (first | exact Drawn0.refl _ | apply Drawn0.step)⟩
   rw [if_neg c8] at H
   have c8b0 : (!(((rd_T30 l0 x13_1).f0) == ((rd_T30 l1 x13_1).f0)) || (!(((rd_T30 l0 x13_1).f1) == ((rd_T30 l1 x13_1).f1)))) = false := by simpa using c8
   clear c8
   have H' := Aside0.mk H
   clear H
   have p101 : 0 ≤ (x13_1 : Int) := zu
   have q101 : x13_1 < (l0.length : Int) := zu
   obtain ⟨ad101, e101, hx101_0, hx101_1⟩ := at_T30 HR0.out x13_1 p101 q101
   cases e101
   replace p101 := eq_true p101
   replace q101 := eq_true q101
   have p102 : 0 ≤ (x13_1 : Int) := zu
   have q102 : x13_1 < (l1.length : Int) := zu
   obtain ⟨ad102, e102, hx102_0, hx102_1⟩ := at_T30 HR1.out x13_1 p102 q102
   cases e102
   replace p102 := eq_true p102
   replace q102 := eq_true q102
   go_wp2
   repeat (go_quiet (fail); try go_wp2)
   go_roundg k1
   case measure => have := HK1.out; omega
   case rel => exact ⟨(wrap64 (x13_1 + 1)), (by first | rfl | (simp; done) | (simp [*]; done)), H', ⟨by have := HK1.out; omega⟩, by repeat (first | exact Drawn0.refl _ | apply Drawn0.step)⟩

/-! ### block_May: function 68 -/
def block_May.f (a0 : Int) : Option (Bool) := if a0 ≥ 2 then (some (decide (a0 ≤ 512))) else (some false)
set_option maxHeartbeats 8000000 in
set_option maxRecDepth 100000 in
theorem block_May.calls (a0 : Int) (r : Bool) (w : World) (h : block_May.f a0 = some r) :
  Calls Try.prog 68 #[.int .i64 a0] w fun e w' => e = .returned (.bool r) ∧ Drawn0 w w' := by
 have H : (if a0 ≥ 2 then (some (decide (a0 ≤ 512))) else (some false)) = some r := h
 clear h
 by_cases c2 : a0 ≥ 2
 ·
  rw [if_pos c2] at H
  have c2b0 : decide (2 ≤ a0) = true := decide_eq_true c2
  clear c2
  obtain rfl := Option.some.inj H
  go_enter Try.func68, Try.ntmps68
  go_wp2
  go_ret
  exact ⟨by first | rfl | (simp; done) | (simp [*]; done), by repeat (first | exact Drawn0.refl _ | apply Drawn0.step)⟩
 rw [if_neg c2] at H
 have c2b0 : decide (2 ≤ a0) = false := decide_eq_false c2
 clear c2
 obtain rfl := Option.some.inj H
 go_enter Try.func68, Try.ntmps68
 go_wp2
 go_ret
 exact ⟨by first | rfl | (simp; done) | (simp [*]; done), by repeat (first | exact Drawn0.refl _ | apply Drawn0.step)⟩

/-! ### block_Word: function 61 -/
def block_Word.f (a0 : Int) (a1 : Bool) : Option (Int) := (block_May.f a0).bind fun t103 => (if t103 = true then (if a1 = true then (some (Go.bits .or .u64 (IntKind.u64.wrap ((IntKind.u64.wrap (a0)) * 2)) 1)) else (some (IntKind.u64.wrap ((IntKind.u64.wrap (a0)) * 2)))) else (some 0))
set_option maxHeartbeats 8000000 in
set_option maxRecDepth 100000 in
theorem block_Word.calls (a0 : Int) (a1 : Bool) (r : Int) (w : World) (h : block_Word.f a0 a1 = some r) :
  Calls Try.prog 61 #[.int .i64 a0, .bool a1] w fun e w' => e = .returned (.int .u64 r) ∧ Drawn0 w w' := by
 have H : ((block_May.f a0).bind fun t103 => (if t103 = true then (if a1 = true then (some (Go.bits .or .u64 (IntKind.u64.wrap ((IntKind.u64.wrap (a0)) * 2)) 1)) else (some (IntKind.u64.wrap ((IntKind.u64.wrap (a0)) * 2)))) else (some 0))) = some r := h
 clear h
 replace H := Option.bind_eq_some_iff.mp H
 obtain ⟨t103, A30, H⟩ := H
 replace H : (if t103 = true then (if a1 = true then (some (Go.bits .or .u64 (IntKind.u64.wrap ((IntKind.u64.wrap (a0)) * 2)) 1)) else (some (IntKind.u64.wrap ((IntKind.u64.wrap (a0)) * 2)))) else (some 0)) = some r := H
 have A3 := Aside0.mk A30
 clear A30
 by_cases c4 : t103 = true
 rotate_left
 ·
  replace c4 := Bool.eq_false_iff.mpr c4
  subst c4
  have H1 : (some 0) = some r := by rw [if_neg (show ¬ (false = true) by decide)] at H; exact H
  clear H
  have H := H1
  clear H1
  obtain rfl := Option.some.inj H
  go_enter Try.func61, Try.ntmps61
  go_wp2_with (first | ((with_reducible refine gate_callee (f := 68) rfl ?_); refine goesL_ (some 7) rfl rfl Try.func68 (by kernel_rfl) rfl #[.int .i64 a0] rfl (by (try simp only [qj, qk, ql]); first | done | rfl | (simp only [qm, qn]; rfl)) ?_; (with_reducible refine (block_May.calls a0 false _ A3.out).mono ?_); rintro e w' ⟨rfl, ⟨nd, rfl⟩⟩; refine ⟨_, rfl, ?_⟩))
  go_ret
  exact ⟨by first | rfl | (simp; done) | (simp [*]; done), by repeat (first | exact Drawn0.refl _ | apply Drawn0.step)⟩
 subst c4
 have H1 : (if a1 = true then (some (Go.bits .or .u64 (IntKind.u64.wrap ((IntKind.u64.wrap (a0)) * 2)) 1)) else (some (IntKind.u64.wrap ((IntKind.u64.wrap (a0)) * 2)))) = some r := by rw [if_pos rfl] at H; exact H
 clear H
 have H := H1
 clear H1
 by_cases c5 : a1 = true
 ·
  subst c5
  have H1 : (some (Go.bits .or .u64 (IntKind.u64.wrap ((IntKind.u64.wrap (a0)) * 2)) 1)) = some r := by rw [if_pos rfl] at H; exact H
  clear H
  have H := H1
  clear H1
  obtain rfl := Option.some.inj H
  go_enter Try.func61, Try.ntmps61
  go_wp2_with (first | ((with_reducible refine gate_callee (f := 68) rfl ?_); refine goesL_ (some 7) rfl rfl Try.func68 (by kernel_rfl) rfl #[.int .i64 a0] rfl (by (try simp only [qj, qk, ql]); first | done | rfl | (simp only [qm, qn]; rfl)) ?_; (with_reducible refine (block_May.calls a0 true _ A3.out).mono ?_); rintro e w' ⟨rfl, ⟨nd, rfl⟩⟩; refine ⟨_, rfl, ?_⟩))
  go_ret
  exact ⟨by first | rfl | (simp; done) | (simp [*]; done), by repeat (first | exact Drawn0.refl _ | apply Drawn0.step)⟩
 replace c5 := Bool.eq_false_iff.mpr c5
 subst c5
 have H1 : (some (IntKind.u64.wrap ((IntKind.u64.wrap (a0)) * 2))) = some r := by rw [if_neg (show ¬ (false = true) by decide)] at H; exact H
 clear H
 have H := H1
 clear H1
 obtain rfl := Option.some.inj H
 go_enter Try.func61, Try.ntmps61
 go_wp2_with (first | ((with_reducible refine gate_callee (f := 68) rfl ?_); refine goesL_ (some 7) rfl rfl Try.func68 (by kernel_rfl) rfl #[.int .i64 a0] rfl (by (try simp only [qj, qk, ql]); first | done | rfl | (simp only [qm, qn]; rfl)) ?_; (with_reducible refine (block_May.calls a0 true _ A3.out).mono ?_); rintro e w' ⟨rfl, ⟨nd, rfl⟩⟩; refine ⟨_, rfl, ?_⟩))
 go_ret
 exact ⟨by first | rfl | (simp; done) | (simp [*]; done), by repeat (first | exact Drawn0.refl _ | apply Drawn0.step)⟩

/-! ### chain_mayWords: function 67 -/
def chain_mayWords.f (a0 : Int) : Option (Bool) := if a0 ≥ 8 then (if a0 ≤ 512 then (some ((Int.tmod a0 8) == 0)) else (some false)) else (some false)
set_option maxHeartbeats 8000000 in
set_option maxRecDepth 100000 in
theorem chain_mayWords.calls (a0 : Int) (r : Bool) (w : World) (h : chain_mayWords.f a0 = some r) :
  Calls Try.prog 67 #[.int .i64 a0] w fun e w' => e = .returned (.bool r) ∧ Drawn0 w w' := by
 have H : (if a0 ≥ 8 then (if a0 ≤ 512 then (some ((Int.tmod a0 8) == 0)) else (some false)) else (some false)) = some r := h
 clear h
 by_cases c2 : a0 ≥ 8
 rotate_left
 ·
  rw [if_neg c2] at H
  have c2b0 : decide (8 ≤ a0) = false := decide_eq_false c2
  clear c2
  obtain rfl := Option.some.inj H
  go_enter Try.func67, Try.ntmps67
  go_wp2
  go_ret
  exact ⟨by first | rfl | (simp; done) | (simp [*]; done), by repeat (first | exact Drawn0.refl _ | apply Drawn0.step)⟩
 rw [if_pos c2] at H
 have c2b0 : decide (8 ≤ a0) = true := decide_eq_true c2
 clear c2
 by_cases c3 : a0 ≤ 512
 ·
  rw [if_pos c3] at H
  have c3b0 : decide (a0 ≤ 512) = true := decide_eq_true c3
  clear c3
  obtain rfl := Option.some.inj H
  go_enter Try.func67, Try.ntmps67
  go_wp2
  go_ret
  exact ⟨by first | rfl | (simp; done) | (simp [*]; done), by repeat (first | exact Drawn0.refl _ | apply Drawn0.step)⟩
 rw [if_neg c3] at H
 have c3b0 : decide (a0 ≤ 512) = false := decide_eq_false c3
 clear c3
 obtain rfl := Option.some.inj H
 go_enter Try.func67, Try.ntmps67
 go_wp2
 go_ret
 exact ⟨by first | rfl | (simp; done) | (simp [*]; done), by repeat (first | exact Drawn0.refl _ | apply Drawn0.step)⟩

/-! ### chain_May: function 36 -/
def chain_May.l0 : Nat → Int → Int → Bool → List (S35) → Int → Int → Option (Bool)
 | 0, _, _, _, _, _, _ => none
 | k + 1, x1, x5, x6, x12, x13, x14 => if x14 < x13 then (if 0 ≤ x14 then (if x14 < (x12.length : Int) then (if ((rd_T35 x12 x14).f0) = x5 then ((block_May.f ((rd_T35 x12 x14).f1)).bind fun t107 => (if t107 = true then (if x6 = true then (if ((rd_T35 x12 x14).f2 = true) then (if ((rd_T35 x12 x14).f1) > (wrap64 (x1 - x5)) then (some false) else (chain_May.l0 k x1 (wrap64 (x5 + ((rd_T35 x12 x14).f1))) (!((rd_T35 x12 x14).f2)) x12 x13 (wrap64 (x14 + 1)))) else (some false)) else (if ((rd_T35 x12 x14).f1) > (wrap64 (x1 - x5)) then (some false) else (chain_May.l0 k x1 (wrap64 (x5 + ((rd_T35 x12 x14).f1))) (!((rd_T35 x12 x14).f2)) x12 x13 (wrap64 (x14 + 1))))) else (some false))) else (some false)) else (none)) else (none)) else (some (x5 == x1))
def chain_May.f (k : Nat) (l0 : List (S35)) (a1 : Int) : Option (Bool) := (chain_mayWords.f a1).bind fun t104 => (if t104 = true then (chain_May.l0 k a1 0 false l0 (l0.length : Int) 0) else (some false))
theorem chain_May.mono_l : ∀ k, (∀ y0 y1 y2 y3 y4 y5, LeO (chain_May.l0 k y0 y1 y2 y3 y4 y5) (chain_May.l0 (k + 1) y0 y1 y2 y3 y4 y5))
 | 0 => fun _ _ _ _ _ _ r h => by simp [chain_May.l0] at h
 | k + 1 => by
  have ih0 := chain_May.mono_l k
  ·
   intro y0 y1 y2 y3 y4 y5
   unfold chain_May.l0
   repeat' first
   | (with_reducible exact ih0 _ _ _ _ _ _)
   | (with_reducible exact LeO.refl _)
   | (with_reducible exact LeO.none _)
   | (with_reducible refine LeO.ite ?_ ?_)
   | (with_reducible refine LeO.bind ?_ (fun _ => ?_))
   | exact ih0 _ _ _ _ _ _
   | exact LeO.none _
   | refine LeO.ite ?_ ?_
   | refine LeO.bind ?_ (fun _ => ?_)
theorem chain_May.mono : ∀ a0 a1 k, LeO (chain_May.f k a0 a1) (chain_May.f (k + 1) a0 a1) := by
 intro a0 a1 k
 have ih0 := chain_May.mono_l k
 unfold chain_May.f
 repeat' first
   | (with_reducible exact ih0 _ _ _ _ _ _)
   | (with_reducible exact LeO.refl _)
   | (with_reducible exact LeO.none _)
   | (with_reducible refine LeO.ite ?_ ?_)
   | (with_reducible refine LeO.bind ?_ (fun _ => ?_))
   | exact ih0 _ _ _ _ _ _
   | exact LeO.none _
   | refine LeO.ite ?_ ?_
   | refine LeO.bind ?_ (fun _ => ?_)
set_option maxHeartbeats 8000000 in
set_option maxRecDepth 100000 in
theorem chain_May.calls (k : Nat) (A0 : Option Addr) (c0 : Nat) (l0 : List (S35)) (a1 : Int) (r : Bool) (w : World) (hr0 : Kd.C k35 w A0 l0.length l0) (hc0 : l0.length ≤ c0) (h : chain_May.f k l0 a1 = some r) :
  Calls Try.prog 36 #[.slice A0 l0.length c0, .int .i64 a1] w fun e w' => e = .returned (.bool r) ∧ Below w.heap.size w w' := by
 have hu35 := Try.underlying35
 have HR0 := Aside0.mk hr0
 have HC0 := Aside0.mk hc0
 clear hr0 hc0
 have HB := Aside0.mk (Below.refl w.heap.size w)
 have H : ((chain_mayWords.f a1).bind fun t104 => (if t104 = true then (chain_May.l0 k a1 0 false l0 (l0.length : Int) 0) else (some false))) = some r := h
 clear h
 replace H := Option.bind_eq_some_iff.mp H
 obtain ⟨t104, A30, H⟩ := H
 replace H : (if t104 = true then (chain_May.l0 k a1 0 false l0 (l0.length : Int) 0) else (some false)) = some r := H
 have A3 := Aside0.mk A30
 clear A30
 by_cases c4 : t104 = true
 rotate_left
 ·
  replace c4 := Bool.eq_false_iff.mpr c4
  subst c4
  have H1 : (some false) = some r := by rw [if_neg (show ¬ (false = true) by decide)] at H; exact H
  clear H
  have H := H1
  clear H1
  obtain rfl := Option.some.inj H
  go_enter Try.func36, Try.ntmps36
  go_wp2_with (first | ((with_reducible refine gate_callee (f := 67) rfl ?_); refine goesL_ (some 10) rfl rfl Try.func67 (by kernel_rfl) rfl #[.int .i64 a1] rfl (by (try simp only [qj, qk, ql]); first | done | rfl | (simp only [qm, qn]; rfl)) ?_; (with_reducible refine (chain_mayWords.calls a1 false _ A3.out).mono ?_); rintro e w' ⟨rfl, ⟨nd, rfl⟩⟩; refine ⟨_, rfl, ?_⟩))
  go_ret
  exact ⟨by first | rfl | (simp [errW_none, errW_some] <;> rfl) | (simp [*, errW_none, errW_some] <;> rfl), zB HB⟩
 subst c4
 have H1 : (chain_May.l0 k a1 0 false l0 (l0.length : Int) 0) = some r := by rw [if_pos rfl] at H; exact H
 clear H
 have H := H1
 clear H1
 have H' := Aside0.mk H
 clear H
 go_enter Try.func36, Try.ntmps36
 go_wp2_with (first | ((with_reducible refine gate_callee (f := 67) rfl ?_); refine goesL_ (some 10) rfl rfl Try.func67 (by kernel_rfl) rfl #[.int .i64 a1] rfl (by (try simp only [qj, qk, ql]); first | done | rfl | (simp only [qm, qn]; rfl)) ?_; (with_reducible refine (chain_mayWords.calls a1 true _ A3.out).mono ?_); rintro e w' ⟨rfl, ⟨nd, rfl⟩⟩; refine ⟨_, rfl, ?_⟩))
 go_loopg [5, 6, 14] k (fun kq v5 v6 v14 w' => ∃ (x5_1 : Int) (x6_1 : Bool) (x14_1 : Int), v5 = .int .i64 x5_1 ∧ v6 = .bool x6_1 ∧ v14 = .int .i64 x14_1 ∧ Aside0 (chain_May.l0 kq a1 x5_1 x6_1 l0 (l0.length : Int) x14_1 = some r) ∧ Aside0 (kq ≤ k) ∧ Aside0 (Below w.heap.size w w'))
 case atStart => exact ⟨(0), (false), (0), (by first | rfl | (simp; done) | (simp [*]; done)), (by first | rfl | (simp; done) | (simp [*]; done)), (by first | rfl | (simp; done) | (simp [*]; done)), H', ⟨Nat.le_refl _⟩, ⟨zB HB⟩⟩
 case round =>
  clear H'
  try clear p2
  try clear c3
  try clear c4
  obtain ⟨x5_1, x6_1, x14_1, rfl, rfl, rfl, HA, HK1, HB⟩ := hrel
  cases gk with
  | zero => exact absurd HA.out (by simp [chain_May.l0])
  | succ k1 =>
   have H := HA.out
   clear HA
   simp only [chain_May.l0] at H
   by_cases c5 : x14_1 < (l0.length : Int)
   rotate_left
   ·
    rw [if_neg c5] at H
    have c5b0 : decide (x14_1 < (l0.length : Int)) = false := decide_eq_false c5
    clear c5
    obtain rfl := Option.some.inj H
    go_wp2
    go_ret
    exact ⟨by first | rfl | (simp [errW_none, errW_some] <;> rfl) | (simp [*, errW_none, errW_some] <;> rfl), zB HB⟩
   rw [if_pos c5] at H
   have c5b0 : decide (x14_1 < (l0.length : Int)) = true := decide_eq_true c5
   clear c5
   by_cases c6 : 0 ≤ x14_1
   rotate_left
   ·
    rw [if_neg c6] at H
    exact absurd H (by simp)
   rw [if_pos c6] at H
   have c6b0 : decide (0 ≤ x14_1) = true := decide_eq_true c6
   clear c6
   by_cases c7 : x14_1 < (l0.length : Int)
   rotate_left
   ·
    rw [if_neg c7] at H
    exact absurd H (by simp)
   rw [if_pos c7] at H
   have c7b0 : decide (x14_1 < (l0.length : Int)) = true := decide_eq_true c7
   clear c7
   by_cases c8 : ((rd_T35 l0 x14_1).f0) = x5_1
   rotate_left
   ·
    rw [if_neg c8] at H
    have c8b0 : (((rd_T35 l0 x14_1).f0) == x5_1) = false := beq_eq_false_iff_ne.mpr c8
    have c8b1 : (((rd_T35 l0 x14_1).f0) != x5_1) = true := bne_iff_ne.mpr c8
    obtain rfl := Option.some.inj H
    have p105 : 0 ≤ (x14_1 : Int) := zu
    have q105 : x14_1 < (l0.length : Int) := zu
    obtain ⟨ad105, e105, hx105_0, hx105_1, hx105_2⟩ := at_T35 HR0.out x14_1 p105 q105
    cases e105
    replace hx105_0 := zw HB hx105_0
    replace hx105_1 := zw HB hx105_1
    replace hx105_2 := zw HB hx105_2
    replace p105 := eq_true p105
    replace q105 := eq_true q105
    go_wp2_with (first | ((with_reducible refine gate_dst (N := 8) rfl ?_); refine box_event ?hg (N := 8) ?hd (cs := #[.int .i64 0, .int .i64 0, .bool false]) (t := 35) ?hr ?_; (case hd => rfl); (case hg => rfl); (case hr => first | (go_simp; done) | (go_simp; rfl)); intro gb106 hg w28 hbox hb; have n0_ := zb HB hb; have n1_ := Aside0.mk (hbox); have n2_ := Aside0.mk ((by rw [hg]; exact (below_size (zB HB)) : w.heap.size ≤ gb106)); have n3_ := Aside0.mk ((by rw [hg]; exact (below_size (zB HB)) : w.heap.size ≤ gb106)); clear HB; have HB := n0_; have BK106 := n1_; have GW106 := n2_; have GE106 := n3_; clear n0_ n1_ n2_ n3_; clear hb hbox hg; have hcz29_0 : w28.cell? ⟨gb106, 0, none⟩ = some (.int .i64 0) := (blk_cell BK106.out 0).trans rfl; have hcz29_1 : w28.cell? ⟨gb106, 1, none⟩ = some (.int .i64 0) := (blk_cell BK106.out 1).trans rfl; have hcz29_2 : w28.cell? ⟨gb106, 2, none⟩ = some (.bool false) := (blk_cell BK106.out 2).trans rfl; have hfz29_0 := blk_frozen BK106.out 0; have hfz29_1 := blk_frozen BK106.out 1; have hfz29_2 := blk_frozen BK106.out 2))
    go_ret
    exact ⟨by first | rfl | (simp [errW_none, errW_some] <;> rfl) | (simp [*, errW_none, errW_some] <;> rfl), by repeat (first | (with_reducible first | exact HB.out | apply qd | apply qe | apply qf | refine below_set ?_ GE106.out) | exact HB.out)⟩
   rw [if_pos c8] at H
   have c8b0 : (((rd_T35 l0 x14_1).f0) == x5_1) = true := beq_iff_eq.mpr c8
   have c8b1 : (((rd_T35 l0 x14_1).f0) != x5_1) = false := bne_eq_false_iff_eq.mpr c8
   clear c8
   replace H := Option.bind_eq_some_iff.mp H
   obtain ⟨t107, A90, H⟩ := H
   replace H : (if t107 = true then (if x6_1 = true then (if ((rd_T35 l0 x14_1).f2 = true) then (if ((rd_T35 l0 x14_1).f1) > (wrap64 (a1 - x5_1)) then (some false) else (chain_May.l0 k1 a1 (wrap64 (x5_1 + ((rd_T35 l0 x14_1).f1))) (!((rd_T35 l0 x14_1).f2)) l0 (l0.length : Int) (wrap64 (x14_1 + 1)))) else (some false)) else (if ((rd_T35 l0 x14_1).f1) > (wrap64 (a1 - x5_1)) then (some false) else (chain_May.l0 k1 a1 (wrap64 (x5_1 + ((rd_T35 l0 x14_1).f1))) (!((rd_T35 l0 x14_1).f2)) l0 (l0.length : Int) (wrap64 (x14_1 + 1))))) else (some false)) = some r := H
   have A9 := Aside0.mk A90
   clear A90
   by_cases c10 : t107 = true
   rotate_left
   ·
    replace c10 := Bool.eq_false_iff.mpr c10
    subst c10
    have H1 : (some false) = some r := by rw [if_neg (show ¬ (false = true) by decide)] at H; exact H
    clear H
    have H := H1
    clear H1
    obtain rfl := Option.some.inj H
    have p105 : 0 ≤ (x14_1 : Int) := zu
    have q105 : x14_1 < (l0.length : Int) := zu
    obtain ⟨ad105, e105, hx105_0, hx105_1, hx105_2⟩ := at_T35 HR0.out x14_1 p105 q105
    cases e105
    replace hx105_0 := zw HB hx105_0
    replace hx105_1 := zw HB hx105_1
    replace hx105_2 := zw HB hx105_2
    replace p105 := eq_true p105
    replace q105 := eq_true q105
    go_wp2_with (first | ((with_reducible refine gate_dst (N := 8) rfl ?_); refine box_event ?hg (N := 8) ?hd (cs := #[.int .i64 0, .int .i64 0, .bool false]) (t := 35) ?hr ?_; (case hd => rfl); (case hg => rfl); (case hr => first | (go_simp; done) | (go_simp; rfl)); intro gb106 hg w26 hbox hb; have n0_ := zb HB hb; have n1_ := Aside0.mk (hbox); have n2_ := Aside0.mk ((by rw [hg]; exact (below_size (zB HB)) : w.heap.size ≤ gb106)); have n3_ := Aside0.mk ((by rw [hg]; exact (below_size (zB HB)) : w.heap.size ≤ gb106)); clear HB; have HB := n0_; have BK106 := n1_; have GW106 := n2_; have GE106 := n3_; clear n0_ n1_ n2_ n3_; clear hb hbox hg; have hcz27_0 : w26.cell? ⟨gb106, 0, none⟩ = some (.int .i64 0) := (blk_cell BK106.out 0).trans rfl; have hcz27_1 : w26.cell? ⟨gb106, 1, none⟩ = some (.int .i64 0) := (blk_cell BK106.out 1).trans rfl; have hcz27_2 : w26.cell? ⟨gb106, 2, none⟩ = some (.bool false) := (blk_cell BK106.out 2).trans rfl; have hfz27_0 := blk_frozen BK106.out 0; have hfz27_1 := blk_frozen BK106.out 1; have hfz27_2 := blk_frozen BK106.out 2) | (go_at_call 68; (with_reducible refine (block_May.calls ((rd_T35 l0 x14_1).f1) false _ A9.out).mono ?_); rintro e w' ⟨rfl, ⟨nd, rfl⟩⟩))
    go_ret
    exact ⟨by first | rfl | (simp [errW_none, errW_some] <;> rfl) | (simp [*, errW_none, errW_some] <;> rfl), by repeat (first | (with_reducible first | exact HB.out | apply qd | apply qe | apply qf | refine below_set ?_ GE106.out) | exact HB.out)⟩
   subst c10
   have H1 : (if x6_1 = true then (if ((rd_T35 l0 x14_1).f2 = true) then (if ((rd_T35 l0 x14_1).f1) > (wrap64 (a1 - x5_1)) then (some false) else (chain_May.l0 k1 a1 (wrap64 (x5_1 + ((rd_T35 l0 x14_1).f1))) (!((rd_T35 l0 x14_1).f2)) l0 (l0.length : Int) (wrap64 (x14_1 + 1)))) else (some false)) else (if ((rd_T35 l0 x14_1).f1) > (wrap64 (a1 - x5_1)) then (some false) else (chain_May.l0 k1 a1 (wrap64 (x5_1 + ((rd_T35 l0 x14_1).f1))) (!((rd_T35 l0 x14_1).f2)) l0 (l0.length : Int) (wrap64 (x14_1 + 1))))) = some r := by rw [if_pos rfl] at H; exact H
   clear H
   have H := H1
   clear H1
   by_cases c11 : x6_1 = true
   rotate_left
   ·
    replace c11 := Bool.eq_false_iff.mpr c11
    subst c11
    have H1 : (if ((rd_T35 l0 x14_1).f1) > (wrap64 (a1 - x5_1)) then (some false) else (chain_May.l0 k1 a1 (wrap64 (x5_1 + ((rd_T35 l0 x14_1).f1))) (!((rd_T35 l0 x14_1).f2)) l0 (l0.length : Int) (wrap64 (x14_1 + 1)))) = some r := by rw [if_neg (show ¬ (false = true) by decide)] at H; exact H
    clear H
    have H := H1
    clear H1
    by_cases c21 : ((rd_T35 l0 x14_1).f1) > (wrap64 (a1 - x5_1))
    ·
     rw [if_pos c21] at H
     have c21b0 : decide ((wrap64 (a1 - x5_1)) < ((rd_T35 l0 x14_1).f1)) = true := decide_eq_true c21
     clear c21
     obtain rfl := Option.some.inj H
     have p105 : 0 ≤ (x14_1 : Int) := zu
     have q105 : x14_1 < (l0.length : Int) := zu
     obtain ⟨ad105, e105, hx105_0, hx105_1, hx105_2⟩ := at_T35 HR0.out x14_1 p105 q105
     cases e105
     replace hx105_0 := zw HB hx105_0
     replace hx105_1 := zw HB hx105_1
     replace hx105_2 := zw HB hx105_2
     replace p105 := eq_true p105
     replace q105 := eq_true q105
     go_wp2_with (first | ((with_reducible refine gate_dst (N := 8) rfl ?_); refine box_event ?hg (N := 8) ?hd (cs := #[.int .i64 0, .int .i64 0, .bool false]) (t := 35) ?hr ?_; (case hd => rfl); (case hg => rfl); (case hr => first | (go_simp; done) | (go_simp; rfl)); intro gb106 hg w22 hbox hb; have n0_ := zb HB hb; have n1_ := Aside0.mk (hbox); have n2_ := Aside0.mk ((by rw [hg]; exact (below_size (zB HB)) : w.heap.size ≤ gb106)); have n3_ := Aside0.mk ((by rw [hg]; exact (below_size (zB HB)) : w.heap.size ≤ gb106)); clear HB; have HB := n0_; have BK106 := n1_; have GW106 := n2_; have GE106 := n3_; clear n0_ n1_ n2_ n3_; clear hb hbox hg; have hcz23_0 : w22.cell? ⟨gb106, 0, none⟩ = some (.int .i64 0) := (blk_cell BK106.out 0).trans rfl; have hcz23_1 : w22.cell? ⟨gb106, 1, none⟩ = some (.int .i64 0) := (blk_cell BK106.out 1).trans rfl; have hcz23_2 : w22.cell? ⟨gb106, 2, none⟩ = some (.bool false) := (blk_cell BK106.out 2).trans rfl; have hfz23_0 := blk_frozen BK106.out 0; have hfz23_1 := blk_frozen BK106.out 1; have hfz23_2 := blk_frozen BK106.out 2) | (go_at_call 68; (with_reducible refine (block_May.calls ((rd_T35 l0 x14_1).f1) true _ A9.out).mono ?_); rintro e w' ⟨rfl, ⟨nd, rfl⟩⟩))
     go_ret
     exact ⟨by first | rfl | (simp [errW_none, errW_some] <;> rfl) | (simp [*, errW_none, errW_some] <;> rfl), by repeat (first | (with_reducible first | exact HB.out | apply qd | apply qe | apply qf | refine below_set ?_ GE106.out) | exact HB.out)⟩
    rw [if_neg c21] at H
    have c21b0 : decide ((wrap64 (a1 - x5_1)) < ((rd_T35 l0 x14_1).f1)) = false := decide_eq_false c21
    clear c21
    have H' := Aside0.mk H
    clear H
    have p105 : 0 ≤ (x14_1 : Int) := zu
    have q105 : x14_1 < (l0.length : Int) := zu
    obtain ⟨ad105, e105, hx105_0, hx105_1, hx105_2⟩ := at_T35 HR0.out x14_1 p105 q105
    cases e105
    replace hx105_0 := zw HB hx105_0
    replace hx105_1 := zw HB hx105_1
    replace hx105_2 := zw HB hx105_2
    replace p105 := eq_true p105
    replace q105 := eq_true q105
    go_wp2_with (first | ((with_reducible refine gate_dst (N := 8) rfl ?_); refine box_event ?hg (N := 8) ?hd (cs := #[.int .i64 0, .int .i64 0, .bool false]) (t := 35) ?hr ?_; (case hd => rfl); (case hg => rfl); (case hr => first | (go_simp; done) | (go_simp; rfl)); intro gb106 hg w24 hbox hb; have n0_ := zb HB hb; have n1_ := Aside0.mk (hbox); have n2_ := Aside0.mk ((by rw [hg]; exact (below_size (zB HB)) : w.heap.size ≤ gb106)); have n3_ := Aside0.mk ((by rw [hg]; exact (below_size (zB HB)) : w.heap.size ≤ gb106)); clear HB; have HB := n0_; have BK106 := n1_; have GW106 := n2_; have GE106 := n3_; clear n0_ n1_ n2_ n3_; clear hb hbox hg; have hcz25_0 : w24.cell? ⟨gb106, 0, none⟩ = some (.int .i64 0) := (blk_cell BK106.out 0).trans rfl; have hcz25_1 : w24.cell? ⟨gb106, 1, none⟩ = some (.int .i64 0) := (blk_cell BK106.out 1).trans rfl; have hcz25_2 : w24.cell? ⟨gb106, 2, none⟩ = some (.bool false) := (blk_cell BK106.out 2).trans rfl; have hfz25_0 := blk_frozen BK106.out 0; have hfz25_1 := blk_frozen BK106.out 1; have hfz25_2 := blk_frozen BK106.out 2) | (go_at_call 68; (with_reducible refine (block_May.calls ((rd_T35 l0 x14_1).f1) true _ A9.out).mono ?_); rintro e w' ⟨rfl, ⟨nd, rfl⟩⟩))
    go_roundg k1
    case measure => have := HK1.out; omega
    case rel => exact ⟨(wrap64 (x5_1 + ((rd_T35 l0 x14_1).f1))), (!((rd_T35 l0 x14_1).f2)), (wrap64 (x14_1 + 1)), (by first | rfl | (simp; done) | (simp [*]; done)), (by first | rfl | (simp; done) | (simp [*]; done)), (by first | rfl | (simp; done) | (simp [*]; done)), H', ⟨by have := HK1.out; omega⟩, ⟨by repeat (first | (with_reducible first | exact HB.out | apply qd | apply qe | apply qf | refine below_set ?_ GE106.out) | exact HB.out)⟩⟩
   subst c11
   have H1 : (if ((rd_T35 l0 x14_1).f2 = true) then (if ((rd_T35 l0 x14_1).f1) > (wrap64 (a1 - x5_1)) then (some false) else (chain_May.l0 k1 a1 (wrap64 (x5_1 + ((rd_T35 l0 x14_1).f1))) (!((rd_T35 l0 x14_1).f2)) l0 (l0.length : Int) (wrap64 (x14_1 + 1)))) else (some false)) = some r := by rw [if_pos rfl] at H; exact H
   clear H
   have H := H1
   clear H1
   first | (generalize hbq12 : (rd_T35 l0 x14_1).f2 = bq12 at *; replace hbq12 := hbq12.symm) | (obtain ⟨bq12, hbq12⟩ : ∃ b_ : Bool, b_ = ((rd_T35 l0 x14_1).f2) := ⟨_, rfl⟩)
   replace H : (if (bq12 = true) then (if ((rd_T35 l0 x14_1).f1) > (wrap64 (a1 - x5_1)) then (some false) else (chain_May.l0 k1 a1 (wrap64 (x5_1 + ((rd_T35 l0 x14_1).f1))) (!bq12) l0 (l0.length : Int) (wrap64 (x14_1 + 1)))) else (some false)) = some r := by first | exact H | (rw [← hbq12] at H; exact H)
   have Nbq12 := Aside0.mk hbq12
   clear hbq12
   (try rw [← Nbq12.out])
   by_cases c13 : (bq12 = true)
   rotate_left
   ·
    replace c13 := Bool.eq_false_iff.mpr c13
    subst c13
    have H1 : (some false) = some r := by rw [if_neg (show ¬ (false = true) by decide)] at H; exact H
    clear H
    have H := H1
    clear H1
    obtain rfl := Option.some.inj H
    have p105 : 0 ≤ (x14_1 : Int) := zu
    have q105 : x14_1 < (l0.length : Int) := zu
    obtain ⟨ad105, e105, hx105_0, hx105_1, hx105_2⟩ := at_T35 HR0.out x14_1 p105 q105
    (try rw [← Nbq12.out] at hx105_2)
    cases e105
    replace hx105_0 := zw HB hx105_0
    replace hx105_1 := zw HB hx105_1
    replace hx105_2 := zw HB hx105_2
    replace p105 := eq_true p105
    replace q105 := eq_true q105
    go_wp2_with (first | ((with_reducible refine gate_dst (N := 8) rfl ?_); refine box_event ?hg (N := 8) ?hd (cs := #[.int .i64 0, .int .i64 0, .bool false]) (t := 35) ?hr ?_; (case hd => rfl); (case hg => rfl); (case hr => first | (go_simp; done) | (go_simp; rfl)); intro gb106 hg w19 hbox hb; have n0_ := zb HB hb; have n1_ := Aside0.mk (hbox); have n2_ := Aside0.mk ((by rw [hg]; exact (below_size (zB HB)) : w.heap.size ≤ gb106)); have n3_ := Aside0.mk ((by rw [hg]; exact (below_size (zB HB)) : w.heap.size ≤ gb106)); clear HB; have HB := n0_; have BK106 := n1_; have GW106 := n2_; have GE106 := n3_; clear n0_ n1_ n2_ n3_; clear hb hbox hg; have hcz20_0 : w19.cell? ⟨gb106, 0, none⟩ = some (.int .i64 0) := (blk_cell BK106.out 0).trans rfl; have hcz20_1 : w19.cell? ⟨gb106, 1, none⟩ = some (.int .i64 0) := (blk_cell BK106.out 1).trans rfl; have hcz20_2 : w19.cell? ⟨gb106, 2, none⟩ = some (.bool false) := (blk_cell BK106.out 2).trans rfl; have hfz20_0 := blk_frozen BK106.out 0; have hfz20_1 := blk_frozen BK106.out 1; have hfz20_2 := blk_frozen BK106.out 2) | (go_at_call 68; (with_reducible refine (block_May.calls ((rd_T35 l0 x14_1).f1) true _ A9.out).mono ?_); rintro e w' ⟨rfl, ⟨nd, rfl⟩⟩))
    go_ret
    exact ⟨by first | rfl | (simp [errW_none, errW_some] <;> rfl) | (simp [*, errW_none, errW_some] <;> rfl), by repeat (first | (with_reducible first | exact HB.out | apply qd | apply qe | apply qf | refine below_set ?_ GE106.out) | exact HB.out)⟩
   subst c13
   have H1 : (if ((rd_T35 l0 x14_1).f1) > (wrap64 (a1 - x5_1)) then (some false) else (chain_May.l0 k1 a1 (wrap64 (x5_1 + ((rd_T35 l0 x14_1).f1))) (!true) l0 (l0.length : Int) (wrap64 (x14_1 + 1)))) = some r := by rw [if_pos rfl] at H; exact H
   clear H
   have H := H1
   clear H1
   by_cases c14 : ((rd_T35 l0 x14_1).f1) > (wrap64 (a1 - x5_1))
   ·
    rw [if_pos c14] at H
    have c14b0 : decide ((wrap64 (a1 - x5_1)) < ((rd_T35 l0 x14_1).f1)) = true := decide_eq_true c14
    clear c14
    obtain rfl := Option.some.inj H
    have p105 : 0 ≤ (x14_1 : Int) := zu
    have q105 : x14_1 < (l0.length : Int) := zu
    obtain ⟨ad105, e105, hx105_0, hx105_1, hx105_2⟩ := at_T35 HR0.out x14_1 p105 q105
    (try rw [← Nbq12.out] at hx105_2)
    cases e105
    replace hx105_0 := zw HB hx105_0
    replace hx105_1 := zw HB hx105_1
    replace hx105_2 := zw HB hx105_2
    replace p105 := eq_true p105
    replace q105 := eq_true q105
    go_wp2_with (first | ((with_reducible refine gate_dst (N := 8) rfl ?_); refine box_event ?hg (N := 8) ?hd (cs := #[.int .i64 0, .int .i64 0, .bool false]) (t := 35) ?hr ?_; (case hd => rfl); (case hg => rfl); (case hr => first | (go_simp; done) | (go_simp; rfl)); intro gb106 hg w15 hbox hb; have n0_ := zb HB hb; have n1_ := Aside0.mk (hbox); have n2_ := Aside0.mk ((by rw [hg]; exact (below_size (zB HB)) : w.heap.size ≤ gb106)); have n3_ := Aside0.mk ((by rw [hg]; exact (below_size (zB HB)) : w.heap.size ≤ gb106)); clear HB; have HB := n0_; have BK106 := n1_; have GW106 := n2_; have GE106 := n3_; clear n0_ n1_ n2_ n3_; clear hb hbox hg; have hcz16_0 : w15.cell? ⟨gb106, 0, none⟩ = some (.int .i64 0) := (blk_cell BK106.out 0).trans rfl; have hcz16_1 : w15.cell? ⟨gb106, 1, none⟩ = some (.int .i64 0) := (blk_cell BK106.out 1).trans rfl; have hcz16_2 : w15.cell? ⟨gb106, 2, none⟩ = some (.bool false) := (blk_cell BK106.out 2).trans rfl; have hfz16_0 := blk_frozen BK106.out 0; have hfz16_1 := blk_frozen BK106.out 1; have hfz16_2 := blk_frozen BK106.out 2) | (go_at_call 68; (with_reducible refine (block_May.calls ((rd_T35 l0 x14_1).f1) true _ A9.out).mono ?_); rintro e w' ⟨rfl, ⟨nd, rfl⟩⟩))
    go_ret
    exact ⟨by first | rfl | (simp [errW_none, errW_some] <;> rfl) | (simp [*, errW_none, errW_some] <;> rfl), by repeat (first | (with_reducible first | exact HB.out | apply qd | apply qe | apply qf | refine below_set ?_ GE106.out) | exact HB.out)⟩
   rw [if_neg c14] at H
   have c14b0 : decide ((wrap64 (a1 - x5_1)) < ((rd_T35 l0 x14_1).f1)) = false := decide_eq_false c14
   clear c14
   have H' := Aside0.mk H
   clear H
   have p105 : 0 ≤ (x14_1 : Int) := zu
   have q105 : x14_1 < (l0.length : Int) := zu
   obtain ⟨ad105, e105, hx105_0, hx105_1, hx105_2⟩ := at_T35 HR0.out x14_1 p105 q105
   (try rw [← Nbq12.out] at hx105_2)
   cases e105
   replace hx105_0 := zw HB hx105_0
   replace hx105_1 := zw HB hx105_1
   replace hx105_2 := zw HB hx105_2
   replace p105 := eq_true p105
   replace q105 := eq_true q105
   go_wp2_with (first | ((with_reducible refine gate_dst (N := 8) rfl ?_); refine box_event ?hg (N := 8) ?hd (cs := #[.int .i64 0, .int .i64 0, .bool false]) (t := 35) ?hr ?_; (case hd => rfl); (case hg => rfl); (case hr => first | (go_simp; done) | (go_simp; rfl)); intro gb106 hg w17 hbox hb; have n0_ := zb HB hb; have n1_ := Aside0.mk (hbox); have n2_ := Aside0.mk ((by rw [hg]; exact (below_size (zB HB)) : w.heap.size ≤ gb106)); have n3_ := Aside0.mk ((by rw [hg]; exact (below_size (zB HB)) : w.heap.size ≤ gb106)); clear HB; have HB := n0_; have BK106 := n1_; have GW106 := n2_; have GE106 := n3_; clear n0_ n1_ n2_ n3_; clear hb hbox hg; have hcz18_0 : w17.cell? ⟨gb106, 0, none⟩ = some (.int .i64 0) := (blk_cell BK106.out 0).trans rfl; have hcz18_1 : w17.cell? ⟨gb106, 1, none⟩ = some (.int .i64 0) := (blk_cell BK106.out 1).trans rfl; have hcz18_2 : w17.cell? ⟨gb106, 2, none⟩ = some (.bool false) := (blk_cell BK106.out 2).trans rfl; have hfz18_0 := blk_frozen BK106.out 0; have hfz18_1 := blk_frozen BK106.out 1; have hfz18_2 := blk_frozen BK106.out 2) | (go_at_call 68; (with_reducible refine (block_May.calls ((rd_T35 l0 x14_1).f1) true _ A9.out).mono ?_); rintro e w' ⟨rfl, ⟨nd, rfl⟩⟩))
   go_roundg k1
   case measure => have := HK1.out; omega
   case rel => exact ⟨(wrap64 (x5_1 + ((rd_T35 l0 x14_1).f1))), (!true), (wrap64 (x14_1 + 1)), (by first | rfl | (simp; done) | (simp [*]; done)), (by first | rfl | (simp; done) | (simp [*]; done)), (by first | rfl | (simp; done) | (simp [*]; done)), H', ⟨by have := HK1.out; omega⟩, ⟨by repeat (first | (with_reducible first | exact HB.out | apply qd | apply qe | apply qf | refine below_set ?_ GE106.out) | exact HB.out)⟩⟩

/-! ### carve_words: function 82 -/
def carve_words.l0 : Nat → Int → List (S35) → Int → Int → Option (Int)
 | 0, _, _, _, _ => none
 | k + 1, x3, x6, x7, x8 => if x8 < x7 then (if 0 ≤ x8 then (if x8 < (x6.length : Int) then ((block_May.f ((rd_T35 x6 x8).f1)).bind fun t110 => (if t110 = true then (if x3 > 512 then (some 0) else (carve_words.l0 k (wrap64 (x3 + ((rd_T35 x6 x8).f1))) x6 x7 (wrap64 (x8 + 1)))) else (some 0))) else (none)) else (none)) else (some x3)
def carve_words.f (k : Nat) (l0 : List (S35)) : Option (Int) := carve_words.l0 k 0 l0 (l0.length : Int) 0
theorem carve_words.mono_l : ∀ k, (∀ y0 y1 y2 y3, LeO (carve_words.l0 k y0 y1 y2 y3) (carve_words.l0 (k + 1) y0 y1 y2 y3))
 | 0 => fun _ _ _ _ r h => by simp [carve_words.l0] at h
 | k + 1 => by
  have ih0 := carve_words.mono_l k
  ·
   intro y0 y1 y2 y3
   unfold carve_words.l0
   repeat' first
   | (with_reducible exact ih0 _ _ _ _)
   | (with_reducible exact LeO.refl _)
   | (with_reducible exact LeO.none _)
   | (with_reducible refine LeO.ite ?_ ?_)
   | (with_reducible refine LeO.bind ?_ (fun _ => ?_))
   | exact ih0 _ _ _ _
   | exact LeO.none _
   | refine LeO.ite ?_ ?_
   | refine LeO.bind ?_ (fun _ => ?_)
theorem carve_words.mono : ∀ a0 k, LeO (carve_words.f k a0) (carve_words.f (k + 1) a0) := by
 intro a0 k
 have ih0 := carve_words.mono_l k
 unfold carve_words.f
 repeat' first
   | (with_reducible exact ih0 _ _ _ _)
   | (with_reducible exact LeO.refl _)
   | (with_reducible exact LeO.none _)
   | (with_reducible refine LeO.ite ?_ ?_)
   | (with_reducible refine LeO.bind ?_ (fun _ => ?_))
   | exact ih0 _ _ _ _
   | exact LeO.none _
   | refine LeO.ite ?_ ?_
   | refine LeO.bind ?_ (fun _ => ?_)
set_option maxHeartbeats 8000000 in
set_option maxRecDepth 100000 in
theorem carve_words.calls (k : Nat) (A0 : Option Addr) (c0 : Nat) (l0 : List (S35)) (r : Int) (w : World) (hr0 : Kd.C k35 w A0 l0.length l0) (hc0 : l0.length ≤ c0) (h : carve_words.f k l0 = some r) :
  Calls Try.prog 82 #[.slice A0 l0.length c0] w fun e w' => e = .returned (.int .i64 r) ∧ Below w.heap.size w w' := by
 have hu35 := Try.underlying35
 have HR0 := Aside0.mk hr0
 have HC0 := Aside0.mk hc0
 clear hr0 hc0
 have HB := Aside0.mk (Below.refl w.heap.size w)
 have H : (carve_words.l0 k 0 l0 (l0.length : Int) 0) = some r := h
 clear h
 have H' := Aside0.mk H
 clear H
 go_enter Try.func82, Try.ntmps82
 go_wp2
 go_loopg [3, 8] k (fun kq v3 v8 w' => ∃ (x3_1 : Int) (x8_1 : Int), v3 = .int .i64 x3_1 ∧ v8 = .int .i64 x8_1 ∧ Aside0 (carve_words.l0 kq x3_1 l0 (l0.length : Int) x8_1 = some r) ∧ Aside0 (kq ≤ k) ∧ Aside0 (Below w.heap.size w w'))
 case atStart => exact ⟨(0), (0), (by first | rfl | (simp; done) | (simp [*]; done)), (by first | rfl | (simp; done) | (simp [*]; done)), H', ⟨Nat.le_refl _⟩, ⟨zB HB⟩⟩
 case round =>
  clear H'
  obtain ⟨x3_1, x8_1, rfl, rfl, HA, HK1, HB⟩ := hrel
  cases gk with
  | zero => exact absurd HA.out (by simp [carve_words.l0])
  | succ k1 =>
   have H := HA.out
   clear HA
   simp only [carve_words.l0] at H
   by_cases c2 : x8_1 < (l0.length : Int)
   rotate_left
   ·
    rw [if_neg c2] at H
    have c2b0 : decide (x8_1 < (l0.length : Int)) = false := decide_eq_false c2
    clear c2
    obtain rfl := Option.some.inj H
    go_wp2
    go_ret
    exact ⟨by first | rfl | (simp [errW_none, errW_some] <;> rfl) | (simp [*, errW_none, errW_some] <;> rfl), zB HB⟩
   rw [if_pos c2] at H
   have c2b0 : decide (x8_1 < (l0.length : Int)) = true := decide_eq_true c2
   clear c2
   by_cases c3 : 0 ≤ x8_1
   rotate_left
   ·
    rw [if_neg c3] at H
    exact absurd H (by simp)
   rw [if_pos c3] at H
   have c3b0 : decide (0 ≤ x8_1) = true := decide_eq_true c3
   clear c3
   by_cases c4 : x8_1 < (l0.length : Int)
   rotate_left
   ·
    rw [if_neg c4] at H
    exact absurd H (by simp)
   rw [if_pos c4] at H
   have c4b0 : decide (x8_1 < (l0.length : Int)) = true := decide_eq_true c4
   clear c4
   replace H := Option.bind_eq_some_iff.mp H
   obtain ⟨t110, A50, H⟩ := H
   replace H : (if t110 = true then (if x3_1 > 512 then (some 0) else (carve_words.l0 k1 (wrap64 (x3_1 + ((rd_T35 l0 x8_1).f1))) l0 (l0.length : Int) (wrap64 (x8_1 + 1)))) else (some 0)) = some r := H
   have A5 := Aside0.mk A50
   clear A50
   by_cases c6 : t110 = true
   rotate_left
   ·
    replace c6 := Bool.eq_false_iff.mpr c6
    subst c6
    have H1 : (some 0) = some r := by rw [if_neg (show ¬ (false = true) by decide)] at H; exact H
    clear H
    have H := H1
    clear H1
    obtain rfl := Option.some.inj H
    have p108 : 0 ≤ (x8_1 : Int) := zu
    have q108 : x8_1 < (l0.length : Int) := zu
    obtain ⟨ad108, e108, hx108_0, hx108_1, hx108_2⟩ := at_T35 HR0.out x8_1 p108 q108
    cases e108
    replace hx108_0 := zw HB hx108_0
    replace hx108_1 := zw HB hx108_1
    replace hx108_2 := zw HB hx108_2
    replace p108 := eq_true p108
    replace q108 := eq_true q108
    go_wp2_with (first | ((with_reducible refine gate_dst (N := 5) rfl ?_); refine box_event ?hg (N := 5) ?hd (cs := #[.int .i64 0, .int .i64 0, .bool false]) (t := 35) ?hr ?_; (case hd => rfl); (case hg => rfl); (case hr => first | (go_simp; done) | (go_simp; rfl)); intro gb109 hg w12 hbox hb; have n0_ := zb HB hb; have n1_ := Aside0.mk (hbox); have n2_ := Aside0.mk ((by rw [hg]; exact (below_size (zB HB)) : w.heap.size ≤ gb109)); have n3_ := Aside0.mk ((by rw [hg]; exact (below_size (zB HB)) : w.heap.size ≤ gb109)); clear HB; have HB := n0_; have BK109 := n1_; have GW109 := n2_; have GE109 := n3_; clear n0_ n1_ n2_ n3_; clear hb hbox hg; have hcz13_0 : w12.cell? ⟨gb109, 0, none⟩ = some (.int .i64 0) := (blk_cell BK109.out 0).trans rfl; have hcz13_1 : w12.cell? ⟨gb109, 1, none⟩ = some (.int .i64 0) := (blk_cell BK109.out 1).trans rfl; have hcz13_2 : w12.cell? ⟨gb109, 2, none⟩ = some (.bool false) := (blk_cell BK109.out 2).trans rfl; have hfz13_0 := blk_frozen BK109.out 0; have hfz13_1 := blk_frozen BK109.out 1; have hfz13_2 := blk_frozen BK109.out 2) | ((with_reducible refine gate_callee (f := 68) rfl ?_); refine goesL_ (some 14) rfl rfl Try.func68 (by kernel_rfl) rfl #[.int .i64 ((rd_T35 l0 x8_1).f1)] rfl (by (try simp only [qj, qk, ql]); first | done | rfl | (simp only [qm, qn]; rfl)) ?_; (with_reducible refine (block_May.calls ((rd_T35 l0 x8_1).f1) false _ A5.out).mono ?_); rintro e w' ⟨rfl, ⟨nd, rfl⟩⟩; refine ⟨_, rfl, ?_⟩))
    go_ret
    exact ⟨by first | rfl | (simp [errW_none, errW_some] <;> rfl) | (simp [*, errW_none, errW_some] <;> rfl), by repeat (first | (with_reducible first | exact HB.out | apply qd | apply qe | apply qf | refine below_set ?_ GE109.out) | exact HB.out)⟩
   subst c6
   have H1 : (if x3_1 > 512 then (some 0) else (carve_words.l0 k1 (wrap64 (x3_1 + ((rd_T35 l0 x8_1).f1))) l0 (l0.length : Int) (wrap64 (x8_1 + 1)))) = some r := by rw [if_pos rfl] at H; exact H
   clear H
   have H := H1
   clear H1
   by_cases c7 : x3_1 > 512
   ·
    rw [if_pos c7] at H
    have c7b0 : decide (512 < x3_1) = true := decide_eq_true c7
    clear c7
    obtain rfl := Option.some.inj H
    have p108 : 0 ≤ (x8_1 : Int) := zu
    have q108 : x8_1 < (l0.length : Int) := zu
    obtain ⟨ad108, e108, hx108_0, hx108_1, hx108_2⟩ := at_T35 HR0.out x8_1 p108 q108
    cases e108
    replace hx108_0 := zw HB hx108_0
    replace hx108_1 := zw HB hx108_1
    replace hx108_2 := zw HB hx108_2
    replace p108 := eq_true p108
    replace q108 := eq_true q108
    go_wp2_with (first | ((with_reducible refine gate_dst (N := 5) rfl ?_); refine box_event ?hg (N := 5) ?hd (cs := #[.int .i64 0, .int .i64 0, .bool false]) (t := 35) ?hr ?_; (case hd => rfl); (case hg => rfl); (case hr => first | (go_simp; done) | (go_simp; rfl)); intro gb109 hg w8 hbox hb; have n0_ := zb HB hb; have n1_ := Aside0.mk (hbox); have n2_ := Aside0.mk ((by rw [hg]; exact (below_size (zB HB)) : w.heap.size ≤ gb109)); have n3_ := Aside0.mk ((by rw [hg]; exact (below_size (zB HB)) : w.heap.size ≤ gb109)); clear HB; have HB := n0_; have BK109 := n1_; have GW109 := n2_; have GE109 := n3_; clear n0_ n1_ n2_ n3_; clear hb hbox hg; have hcz9_0 : w8.cell? ⟨gb109, 0, none⟩ = some (.int .i64 0) := (blk_cell BK109.out 0).trans rfl; have hcz9_1 : w8.cell? ⟨gb109, 1, none⟩ = some (.int .i64 0) := (blk_cell BK109.out 1).trans rfl; have hcz9_2 : w8.cell? ⟨gb109, 2, none⟩ = some (.bool false) := (blk_cell BK109.out 2).trans rfl; have hfz9_0 := blk_frozen BK109.out 0; have hfz9_1 := blk_frozen BK109.out 1; have hfz9_2 := blk_frozen BK109.out 2) | ((with_reducible refine gate_callee (f := 68) rfl ?_); refine goesL_ (some 14) rfl rfl Try.func68 (by kernel_rfl) rfl #[.int .i64 ((rd_T35 l0 x8_1).f1)] rfl (by (try simp only [qj, qk, ql]); first | done | rfl | (simp only [qm, qn]; rfl)) ?_; (with_reducible refine (block_May.calls ((rd_T35 l0 x8_1).f1) true _ A5.out).mono ?_); rintro e w' ⟨rfl, ⟨nd, rfl⟩⟩; refine ⟨_, rfl, ?_⟩))
    go_ret
    exact ⟨by first | rfl | (simp [errW_none, errW_some] <;> rfl) | (simp [*, errW_none, errW_some] <;> rfl), by repeat (first | (with_reducible first | exact HB.out | apply qd | apply qe | apply qf | refine below_set ?_ GE109.out) | exact HB.out)⟩
   rw [if_neg c7] at H
   have c7b0 : decide (512 < x3_1) = false := decide_eq_false c7
   clear c7
   have H' := Aside0.mk H
   clear H
   have p108 : 0 ≤ (x8_1 : Int) := zu
   have q108 : x8_1 < (l0.length : Int) := zu
   obtain ⟨ad108, e108, hx108_0, hx108_1, hx108_2⟩ := at_T35 HR0.out x8_1 p108 q108
   cases e108
   replace hx108_0 := zw HB hx108_0
   replace hx108_1 := zw HB hx108_1
   replace hx108_2 := zw HB hx108_2
   replace p108 := eq_true p108
   replace q108 := eq_true q108
   go_wp2_with (first | ((with_reducible refine gate_dst (N := 5) rfl ?_); refine box_event ?hg (N := 5) ?hd (cs := #[.int .i64 0, .int .i64 0, .bool false]) (t := 35) ?hr ?_; (case hd => rfl); (case hg => rfl); (case hr => first | (go_simp; done) | (go_simp; rfl)); intro gb109 hg w10 hbox hb; have n0_ := zb HB hb; have n1_ := Aside0.mk (hbox); have n2_ := Aside0.mk ((by rw [hg]; exact (below_size (zB HB)) : w.heap.size ≤ gb109)); have n3_ := Aside0.mk ((by rw [hg]; exact (below_size (zB HB)) : w.heap.size ≤ gb109)); clear HB; have HB := n0_; have BK109 := n1_; have GW109 := n2_; have GE109 := n3_; clear n0_ n1_ n2_ n3_; clear hb hbox hg; have hcz11_0 : w10.cell? ⟨gb109, 0, none⟩ = some (.int .i64 0) := (blk_cell BK109.out 0).trans rfl; have hcz11_1 : w10.cell? ⟨gb109, 1, none⟩ = some (.int .i64 0) := (blk_cell BK109.out 1).trans rfl; have hcz11_2 : w10.cell? ⟨gb109, 2, none⟩ = some (.bool false) := (blk_cell BK109.out 2).trans rfl; have hfz11_0 := blk_frozen BK109.out 0; have hfz11_1 := blk_frozen BK109.out 1; have hfz11_2 := blk_frozen BK109.out 2) | ((with_reducible refine gate_callee (f := 68) rfl ?_); refine goesL_ (some 14) rfl rfl Try.func68 (by kernel_rfl) rfl #[.int .i64 ((rd_T35 l0 x8_1).f1)] rfl (by (try simp only [qj, qk, ql]); first | done | rfl | (simp only [qm, qn]; rfl)) ?_; (with_reducible refine (block_May.calls ((rd_T35 l0 x8_1).f1) true _ A5.out).mono ?_); rintro e w' ⟨rfl, ⟨nd, rfl⟩⟩; refine ⟨_, rfl, ?_⟩))
   go_roundg k1
   case measure => have := HK1.out; omega
   case rel => exact ⟨(wrap64 (x3_1 + ((rd_T35 l0 x8_1).f1))), (wrap64 (x8_1 + 1)), (by first | rfl | (simp; done) | (simp [*]; done)), (by first | rfl | (simp; done) | (simp [*]; done)), H', ⟨by have := HK1.out; omega⟩, ⟨by repeat (first | (with_reducible first | exact HB.out | apply qd | apply qe | apply qf | refine below_set ?_ GE109.out) | exact HB.out)⟩⟩

/-! ### fit_Takes: function 83 -/
def fit_Takes.j0 : Nat → Int → Int → Bool → Option (Int)
 | 0, _, _, _ => none
 | k + 1, x0, x1, x5 => if x5 = true then (some 0) else (if (wrap64 (x0 - x1)) < 2 then (some x0) else (some x1))
def fit_Takes.f (k : Nat) (a0 : Int) (a1 : Int) : Option (Int) := if a1 < 2 then (fit_Takes.j0 k a0 a1 true) else (fit_Takes.j0 k a0 a1 (decide (a1 > a0)))
theorem fit_Takes.mono_l : ∀ k, (∀ y0 y1 y2, LeO (fit_Takes.j0 k y0 y1 y2) (fit_Takes.j0 (k + 1) y0 y1 y2))
 | 0 => fun _ _ _ r h => by simp [fit_Takes.j0] at h
 | k + 1 => by
  have ih0 := fit_Takes.mono_l k
  ·
   intro y0 y1 y2
   unfold fit_Takes.j0
   repeat' first
   | (with_reducible exact ih0 _ _ _)
   | (with_reducible exact LeO.refl _)
   | (with_reducible exact LeO.none _)
   | (with_reducible refine LeO.ite ?_ ?_)
   | (with_reducible refine LeO.bind ?_ (fun _ => ?_))
   | exact ih0 _ _ _
   | exact LeO.none _
   | refine LeO.ite ?_ ?_
   | refine LeO.bind ?_ (fun _ => ?_)
theorem fit_Takes.mono : ∀ a0 a1 k, LeO (fit_Takes.f k a0 a1) (fit_Takes.f (k + 1) a0 a1) := by
 intro a0 a1 k
 have ih0 := fit_Takes.mono_l k
 unfold fit_Takes.f
 repeat' first
   | (with_reducible exact ih0 _ _ _)
   | (with_reducible exact LeO.refl _)
   | (with_reducible exact LeO.none _)
   | (with_reducible refine LeO.ite ?_ ?_)
   | (with_reducible refine LeO.bind ?_ (fun _ => ?_))
   | exact ih0 _ _ _
   | exact LeO.none _
   | refine LeO.ite ?_ ?_
   | refine LeO.bind ?_ (fun _ => ?_)
set_option maxHeartbeats 8000000 in
set_option maxRecDepth 100000 in
theorem fit_Takes.calls (k : Nat) (a0 : Int) (a1 : Int) (r : Int) (w : World) (h : fit_Takes.f k a0 a1 = some r) :
  Calls Try.prog 83 #[.int .i64 a0, .int .i64 a1] w fun e w' => e = .returned (.int .i64 r) ∧ Drawn0 w w' := by
 have H : (if a1 < 2 then (fit_Takes.j0 k a0 a1 true) else (fit_Takes.j0 k a0 a1 (decide (a1 > a0)))) = some r := h
 clear h
 have HC3 := Aside0.mk H
 clear H
 go_enter Try.func83, Try.ntmps83
 go_upto_region 1 with (fail)
 go_cut [5] (fun v5 wc => ∃ (kq : Nat) (x5_2 : Bool), v5 = .bool x5_2 ∧ Aside0 (fit_Takes.j0 kq a0 a1 x5_2 = some r) ∧ Aside0 (kq ≤ k) ∧ Drawn0 w wc)
 case first =>
  have H := HC3.out
  clear HC3
  by_cases c4 : a1 < 2
  ·
   rw [if_pos c4] at H
   have c4b0 : decide (a1 < 2) = true := decide_eq_true c4
   clear c4
   (first | rw [c4b0] | (simp only [i64_w, i32_w]; rw [c4b0]) | skip)
   have H' := Aside0.mk H
   clear H
   go_wp2
   go_meet
   case rel => exact ⟨_, (true), (by first | rfl | (simp; done) | (simp [*]; done)), H', ⟨by first | omega | exact Nat.le_refl _⟩, by repeat (first | exact Drawn0.refl _ | apply Drawn0.step)⟩
  rw [if_neg c4] at H
  have c4b0 : decide (a1 < 2) = false := decide_eq_false c4
  clear c4
  (first | rw [c4b0] | (simp only [i64_w, i32_w]; rw [c4b0]) | skip)
  have H' := Aside0.mk H
  clear H
  go_wp2
  go_meet
  case rel => exact ⟨_, (decide (a1 > a0)), (by first | rfl | (simp; done) | (simp [*]; done)), H', ⟨by first | omega | exact Nat.le_refl _⟩, by repeat (first | exact Drawn0.refl _ | apply Drawn0.step)⟩
 clear HC3
 try clear p2
 try clear c4
 try clear c4b0
 obtain ⟨kq, x5_2, rfl, HA, HJ2, ⟨mc2, rfl⟩⟩ := hcut
 cases kq with
 | zero => exact absurd HA.out (by simp [fit_Takes.j0])
 | succ kj2 =>
  have H := HA.out
  clear HA
  simp only [fit_Takes.j0] at H
  by_cases c5 : x5_2 = true
  ·
   subst c5
   have H1 : (some 0) = some r := by rw [if_pos rfl] at H; exact H
   clear H
   have H := H1
   clear H1
   obtain rfl := Option.some.inj H
   go_wp2
   go_ret
   exact ⟨by first | rfl | (simp; done) | (simp [*]; done), by repeat (first | exact Drawn0.refl _ | apply Drawn0.step)⟩
  replace c5 := Bool.eq_false_iff.mpr c5
  subst c5
  have H1 : (if (wrap64 (a0 - a1)) < 2 then (some a0) else (some a1)) = some r := by rw [if_neg (show ¬ (false = true) by decide)] at H; exact H
  clear H
  have H := H1
  clear H1
  by_cases c6 : (wrap64 (a0 - a1)) < 2
  ·
   rw [if_pos c6] at H
   have c6b0 : decide ((wrap64 (a0 - a1)) < 2) = true := decide_eq_true c6
   clear c6
   obtain rfl := Option.some.inj H
   go_wp2
   go_ret
   exact ⟨by first | rfl | (simp; done) | (simp [*]; done), by repeat (first | exact Drawn0.refl _ | apply Drawn0.step)⟩
  rw [if_neg c6] at H
  have c6b0 : decide ((wrap64 (a0 - a1)) < 2) = false := decide_eq_false c6
  clear c6
  obtain rfl := Option.some.inj H
  go_wp2
  go_ret
  exact ⟨by first | rfl | (simp; done) | (simp [*]; done), by repeat (first | exact Drawn0.refl _ | apply Drawn0.step)⟩

end Go.Proofs.Ytglekonhdjploaa.XImageForms
