-- printed by wip/xprint.py
import Derived.Test.YtglekonhdjploaaXImageFormsx0
namespace Go.Proofs.Ytglekonhdjploaa.XImageForms
open Go.RowKit Go.Proofs.YtglekonhdjploaaW.PrintWords Go.Proofs.YtglekonhdjploaaW.PrintLast Go.Proofs.YtglekonhdjploaaW.PrintMore
attribute [local go_sem] max2_int min2_int max_two min_two max_three min_three max_four min_four
set_option linter.unusedVariables false
set_option linter.unusedSimpArgs false

/-! ### darningref4_countAt: function 89 -/
def darningref4_countAt.f (a0 : Int) (l1 : List Int) : Option (Int) := if a0 < 0 then (some 0) else (if (wrap64 (Int.tdiv a0 32)) ≥ (l1.length : Int) then (some 0) else (if 0 ≤ (wrap64 (Int.tdiv a0 32)) then (if (wrap64 (Int.tdiv a0 32)) < (l1.length : Int) then (some (rd l1 (wrap64 (Int.tdiv a0 32)))) else (none)) else (none)))
set_option maxHeartbeats 8000000 in
set_option maxRecDepth 100000 in
theorem darningref4_countAt.calls (a0 : Int) (A1 : Option Addr) (c1 : Nat) (l1 : List Int) (r : Int) (w : World) (hr1 : Kd.C (Kd.int .i64) w A1 l1.length l1) (hc1 : l1.length ≤ c1) (h : darningref4_countAt.f a0 l1 = some r) :
  Calls Try.prog 89 #[.int .i64 a0, .slice A1 l1.length c1] w fun e w' => e = .returned (.int .i64 r) ∧ Drawn0 w w' := by
 have HR1 := Aside0.mk hr1
 have HC1 := Aside0.mk hc1
 clear hr1 hc1
 have H : (if a0 < 0 then (some 0) else (if (wrap64 (Int.tdiv a0 32)) ≥ (l1.length : Int) then (some 0) else (if 0 ≤ (wrap64 (Int.tdiv a0 32)) then (if (wrap64 (Int.tdiv a0 32)) < (l1.length : Int) then (some (rd l1 (wrap64 (Int.tdiv a0 32)))) else (none)) else (none)))) = some r := h
 clear h
 by_cases c3 : a0 < 0
 ·
  rw [if_pos c3] at H
  have c3b0 : decide (a0 < 0) = true := decide_eq_true c3
  clear c3
  obtain rfl := Option.some.inj H
  go_enter Try.func89, Try.ntmps89
  go_wp2
  go_ret
  exact ⟨by first | rfl | (simp; done) | (simp [*]; done), by repeat (first | exact Drawn0.refl _ | apply Drawn0.step)⟩
 rw [if_neg c3] at H
 have c3b0 : decide (a0 < 0) = false := decide_eq_false c3
 clear c3
 by_cases c4 : (wrap64 (Int.tdiv a0 32)) ≥ (l1.length : Int)
 ·
  rw [if_pos c4] at H
  have c4b0 : decide ((l1.length : Int) ≤ (wrap64 (Int.tdiv a0 32))) = true := decide_eq_true c4
  clear c4
  obtain rfl := Option.some.inj H
  go_enter Try.func89, Try.ntmps89
  go_wp2
  go_ret
  exact ⟨by first | rfl | (simp; done) | (simp [*]; done), by repeat (first | exact Drawn0.refl _ | apply Drawn0.step)⟩
 rw [if_neg c4] at H
 have c4b0 : decide ((l1.length : Int) ≤ (wrap64 (Int.tdiv a0 32))) = false := decide_eq_false c4
 clear c4
 obtain ⟨ji5, hji5⟩ : ∃ j_ : Int, (wrap64 (Int.tdiv a0 32)) = j_ := ⟨_, rfl⟩
 replace H : (if 0 ≤ (ji5) then (if (ji5) < (l1.length : Int) then (some (rd l1 (ji5))) else (none)) else (none)) = some r := by first | (rw [hji5] at H; exact H) | (simp only [hji5] at H ⊢; exact H)
 (try rw [hji5] at c4b0)
 have hji5w : (IntKind.i64.wrap (Int.tdiv a0 32)) = ji5 := (i64_w _).trans hji5
 by_cases c6 : 0 ≤ (ji5)
 rotate_left
 ·
  rw [if_neg c6] at H
  exact absurd H (by simp)
 rw [if_pos c6] at H
 have c6b0 : decide (0 ≤ (ji5)) = true := decide_eq_true c6
 clear c6
 by_cases c7 : (ji5) < (l1.length : Int)
 rotate_left
 ·
  rw [if_neg c7] at H
  exact absurd H (by simp)
 rw [if_pos c7] at H
 have c7b0 : decide ((ji5) < (l1.length : Int)) = true := decide_eq_true c7
 clear c7
 obtain rfl := Option.some.inj H
 have p344 : 0 ≤ ((ji5) : Int) := zu
 have q344 : (ji5) < (l1.length : Int) := zu
 obtain ⟨ad344, e344, hx344_0⟩ := Kd.at_int HR1.out (ji5) p344 q344
 cases e344
 replace p344 := eq_true p344
 replace q344 := eq_true q344
 go_enter Try.func89, Try.ntmps89
 go_wp2
 go_ret
 exact ⟨by first | rfl | (simp; done) | (simp only [← hji5] <;> (first | rfl | simp)) | (simp [*]; done), by repeat (first | exact Drawn0.refl _ | apply Drawn0.step)⟩

end Go.Proofs.Ytglekonhdjploaa.XImageForms
