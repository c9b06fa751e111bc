-- Laid by this session's own printer (wip/xprint.py): each Go function that the law reaches as a plain Lean function, and that the call comes to it.
import Derived.Test.YtjmlbkbjmeeplaaXGapMovesx0
namespace Go.Proofs.Ytjmlbkbjmeeplaa.XGapMoves
open Go.RowKit Go.Proofs.YtjmlbkbjmeeplaaW.PrintWords Go.Proofs.YtjmlbkbjmeeplaaW.PrintLast Go.Proofs.YtjmlbkbjmeeplaaW.PrintMore
attribute [local go_sem] max2_int min2_int max_two min_two max_three min_three max_four min_four   -- for this text's walks alone
set_option linter.unusedVariables false
set_option linter.unusedSimpArgs false

/-! ### gap_may: function 41 -/
def gap_may.f (a0 : Int) (a1 : Int) : Option (Bool) := if a0 ≥ 1 then (if a0 ≤ 100000 then (some (decide (a1 ≥ 0))) else (some false)) else (some false)
set_option maxHeartbeats 8000000 in
set_option maxRecDepth 100000 in
theorem gap_may.calls (a0 : Int) (a1 : Int) (r : Bool) (w : World) (h : gap_may.f a0 a1 = some r) :
    Calls Try.prog 41 #[.int .i64 a0, .int .i64 a1] w fun e w' => e = .returned (.bool r) ∧ Drawn0 w w' := by
  have H : (if a0 ≥ 1 then (if a0 ≤ 100000 then (some (decide (a1 ≥ 0))) else (some false)) else (some false)) = some r := h
  clear h
  by_cases c3 : a0 ≥ 1
  · rw [if_pos c3] at H
    have c3b0 : decide (1 ≤ a0) = true := decide_eq_true c3
    clear c3
    by_cases c4 : a0 ≤ 100000
    · rw [if_pos c4] at H
      have c4b0 : decide (a0 ≤ 100000) = true := decide_eq_true c4
      clear c4
      obtain rfl := Option.some.inj H
      go_enter Try.func41, Try.ntmps41
      go_wp2
      go_ret
      exact ⟨by first | rfl | (simp; done) | (simp [*]; done), by repeat (first | exact Drawn0.refl _ | apply Drawn0.step)⟩
    · rw [if_neg c4] at H
      have c4b0 : decide (a0 ≤ 100000) = false := decide_eq_false c4
      clear c4
      obtain rfl := Option.some.inj H
      go_enter Try.func41, Try.ntmps41
      go_wp2
      go_ret
      exact ⟨by first | rfl | (simp; done) | (simp [*]; done), by repeat (first | exact Drawn0.refl _ | apply Drawn0.step)⟩
  · rw [if_neg c3] at H
    have c3b0 : decide (1 ≤ a0) = false := decide_eq_false c3
    clear c3
    obtain rfl := Option.some.inj H
    go_enter Try.func41, Try.ntmps41
    go_wp2
    go_ret
    exact ⟨by first | rfl | (simp; done) | (simp [*]; done), by repeat (first | exact Drawn0.refl _ | apply Drawn0.step)⟩

/-! ### gap_Gap: function 24 -/
def gap_Gap.f (a0 : Int) (a1 : Int) : Option (Int) := (gap_may.f a0 a1).bind fun t101 => (if t101 = true then (if (wrap64 (a0 + 1)) = 0 then (none) else (some (wrap64 (a0 - (Int.tmod a1 (wrap64 (a0 + 1))))))) else (some (-1)))
set_option maxHeartbeats 8000000 in
set_option maxRecDepth 100000 in
theorem gap_Gap.calls (a0 : Int) (a1 : Int) (r : Int) (w : World) (h : gap_Gap.f a0 a1 = some r) :
    Calls Try.prog 24 #[.int .i64 a0, .int .i64 a1] w fun e w' => e = .returned (.int .i64 r) ∧ Drawn0 w w' := by
  have H : ((gap_may.f a0 a1).bind fun t101 => (if t101 = true then (if (wrap64 (a0 + 1)) = 0 then (none) else (some (wrap64 (a0 - (Int.tmod a1 (wrap64 (a0 + 1))))))) else (some (-1)))) = some r := h
  clear h
  replace H := Option.bind_eq_some_iff.mp H
  obtain ⟨t101, A30, H⟩ := H
  replace H : (if t101 = true then (if (wrap64 (a0 + 1)) = 0 then (none) else (some (wrap64 (a0 - (Int.tmod a1 (wrap64 (a0 + 1))))))) else (some (-1))) = some r := H
  have A3 := Aside0.mk A30
  clear A30
  by_cases c4 : t101 = true
  · subst c4
    have H1 : (if (wrap64 (a0 + 1)) = 0 then (none) else (some (wrap64 (a0 - (Int.tmod a1 (wrap64 (a0 + 1))))))) = some r := by rw [if_pos rfl] at H; exact H
    clear H
    have H := H1
    clear H1
    by_cases c5 : (wrap64 (a0 + 1)) = 0
    · rw [if_pos c5] at H
      exact absurd H (by simp)
    · rw [if_neg c5] at H
      have c5b0 : ((wrap64 (a0 + 1)) == 0) = false := beq_eq_false_iff_ne.mpr c5
      have c5b1 : ((wrap64 (a0 + 1)) != 0) = true := bne_iff_ne.mpr c5
      obtain rfl := Option.some.inj H
      go_enter Try.func24, Try.ntmps24
      go_wp2_with (first | ((with_reducible refine gate_callee (f := 41) rfl ?_); refine goesL_ (some 7) rfl rfl Try.func41 (by kernel_rfl) rfl #[.int .i64 a0, .int .i64 a1] rfl (by (try simp only [List.map_toArray, List.map_cons, List.map_nil]); first | done | rfl | (simp only [List.length_drop, List.length_take]; rfl)) ?_; (with_reducible refine (gap_may.calls a0 a1 true _ A3.out).mono ?_); rintro e w' ⟨rfl, ⟨nd, rfl⟩⟩; refine ⟨_, rfl, ?_⟩))
      go_ret
      exact ⟨by first | rfl | (simp; done) | (simp [*]; done), by repeat (first | exact Drawn0.refl _ | apply Drawn0.step)⟩
  · replace c4 := Bool.eq_false_iff.mpr c4
    subst c4
    have H1 : (some (-1)) = some r := by rw [if_neg (show ¬ (false = true) by decide)] at H; exact H
    clear H
    have H := H1
    clear H1
    obtain rfl := Option.some.inj H
    go_enter Try.func24, Try.ntmps24
    go_wp2_with (first | ((with_reducible refine gate_callee (f := 41) rfl ?_); refine goesL_ (some 7) rfl rfl Try.func41 (by kernel_rfl) rfl #[.int .i64 a0, .int .i64 a1] rfl (by (try simp only [List.map_toArray, List.map_cons, List.map_nil]); first | done | rfl | (simp only [List.length_drop, List.length_take]; rfl)) ?_; (with_reducible refine (gap_may.calls a0 a1 false _ A3.out).mono ?_); rintro e w' ⟨rfl, ⟨nd, rfl⟩⟩; refine ⟨_, rfl, ?_⟩))
    go_ret
    exact ⟨by first | rfl | (simp; done) | (simp [*]; done), by repeat (first | exact Drawn0.refl _ | apply Drawn0.step)⟩

/-! ### gap_Move: function 22 -/
def gap_Move.f (a0 : Int) (a1 : Int) : Option (Int × Int) := (gap_Gap.f a0 a1).bind fun t102 => (if t102 = (-1) then (some ((-1), (-1))) else (if t102 = 0 then (some (a0, 0)) else (some (wrap64 (t102 - 1), t102))))
set_option maxHeartbeats 8000000 in
set_option maxRecDepth 100000 in
theorem gap_Move.calls (a0 : Int) (a1 : Int) (r1 : Int) (r2 : Int) (w : World) (h : gap_Move.f a0 a1 = some (r1, r2)) :
    Calls Try.prog 22 #[.int .i64 a0, .int .i64 a1] w fun e w' => e = .returned (.tuple #[.int .i64 r1, .int .i64 r2]) ∧ Drawn0 w w' := by
  have H : ((gap_Gap.f a0 a1).bind fun t102 => (if t102 = (-1) then (some ((-1), (-1))) else (if t102 = 0 then (some (a0, 0)) else (some (wrap64 (t102 - 1), t102))))) = some (r1, r2) := h
  clear h
  replace H := Option.bind_eq_some_iff.mp H
  obtain ⟨t102, A30, H⟩ := H
  replace H : (if t102 = (-1) then (some ((-1), (-1))) else (if t102 = 0 then (some (a0, 0)) else (some (wrap64 (t102 - 1), t102)))) = some (r1, r2) := H
  have A3 := Aside0.mk A30
  clear A30
  by_cases c4 : t102 = (-1)
  · rw [if_pos c4] at H
    have c4b0 : (t102 == (-1)) = true := beq_iff_eq.mpr c4
    have c4b1 : (t102 != (-1)) = false := bne_eq_false_iff_eq.mpr c4
    clear c4
    simp only [Option.some.injEq, Prod.mk.injEq] at H
    obtain ⟨rfl, rfl⟩ := H
    go_enter Try.func22, Try.ntmps22
    go_wp2_with (first | ((with_reducible refine gate_callee (f := 24) rfl ?_); refine goesL_ (some 8) rfl rfl Try.func24 (by kernel_rfl) rfl #[.int .i64 a0, .int .i64 a1] rfl (by (try simp only [List.map_toArray, List.map_cons, List.map_nil]); first | done | rfl | (simp only [List.length_drop, List.length_take]; rfl)) ?_; (with_reducible refine (gap_Gap.calls a0 a1 t102 _ A3.out).mono ?_); rintro e w' ⟨rfl, ⟨nd, rfl⟩⟩; refine ⟨_, rfl, ?_⟩))
    go_ret2
    exact ⟨by first | rfl | (simp; done) | (simp [*]; done), by repeat (first | exact Drawn0.refl _ | apply Drawn0.step)⟩
  · rw [if_neg c4] at H
    have c4b0 : (t102 == (-1)) = false := beq_eq_false_iff_ne.mpr c4
    have c4b1 : (t102 != (-1)) = true := bne_iff_ne.mpr c4
    by_cases c5 : t102 = 0
    · rw [if_pos c5] at H
      have c5b0 : (t102 == 0) = true := beq_iff_eq.mpr c5
      have c5b1 : (t102 != 0) = false := bne_eq_false_iff_eq.mpr c5
      clear c5
      simp only [Option.some.injEq, Prod.mk.injEq] at H
      obtain ⟨rfl, rfl⟩ := H
      go_enter Try.func22, Try.ntmps22
      go_wp2_with (first | ((with_reducible refine gate_callee (f := 24) rfl ?_); refine goesL_ (some 8) rfl rfl Try.func24 (by kernel_rfl) rfl #[.int .i64 a0, .int .i64 a1] rfl (by (try simp only [List.map_toArray, List.map_cons, List.map_nil]); first | done | rfl | (simp only [List.length_drop, List.length_take]; rfl)) ?_; (with_reducible refine (gap_Gap.calls a0 a1 t102 _ A3.out).mono ?_); rintro e w' ⟨rfl, ⟨nd, rfl⟩⟩; refine ⟨_, rfl, ?_⟩))
      go_ret2
      exact ⟨by first | rfl | (simp; done) | (simp [*]; done), by repeat (first | exact Drawn0.refl _ | apply Drawn0.step)⟩
    · rw [if_neg c5] at H
      have c5b0 : (t102 == 0) = false := beq_eq_false_iff_ne.mpr c5
      have c5b1 : (t102 != 0) = true := bne_iff_ne.mpr c5
      simp only [Option.some.injEq, Prod.mk.injEq] at H
      obtain ⟨rfl, rfl⟩ := H
      go_enter Try.func22, Try.ntmps22
      go_wp2_with (first | ((with_reducible refine gate_callee (f := 24) rfl ?_); refine goesL_ (some 8) rfl rfl Try.func24 (by kernel_rfl) rfl #[.int .i64 a0, .int .i64 a1] rfl (by (try simp only [List.map_toArray, List.map_cons, List.map_nil]); first | done | rfl | (simp only [List.length_drop, List.length_take]; rfl)) ?_; (with_reducible refine (gap_Gap.calls a0 a1 t102 _ A3.out).mono ?_); rintro e w' ⟨rfl, ⟨nd, rfl⟩⟩; refine ⟨_, rfl, ?_⟩))
      go_ret2
      exact ⟨by first | rfl | (simp; done) | (simp [*]; done), by repeat (first | exact Drawn0.refl _ | apply Drawn0.step)⟩

/-! ### gap_turned: function 43 -/
def gap_turned.f (a0 : Int) (a1 : Int) : Option (Int) := if (wrap64 (a0 + 1)) = 0 then (none) else (if a0 = 0 then (none) else (some (Int.tmod (wrap64 (Int.tdiv a1 (wrap64 (a0 + 1)))) a0)))
set_option maxHeartbeats 8000000 in
set_option maxRecDepth 100000 in
theorem gap_turned.calls (a0 : Int) (a1 : Int) (r : Int) (w : World) (h : gap_turned.f a0 a1 = some r) :
    Calls Try.prog 43 #[.int .i64 a0, .int .i64 a1] w fun e w' => e = .returned (.int .i64 r) ∧ Drawn0 w w' := by
  have H : (if (wrap64 (a0 + 1)) = 0 then (none) else (if a0 = 0 then (none) else (some (Int.tmod (wrap64 (Int.tdiv a1 (wrap64 (a0 + 1)))) a0)))) = some r := h
  clear h
  by_cases c3 : (wrap64 (a0 + 1)) = 0
  · rw [if_pos c3] at H
    exact absurd H (by simp)
  · rw [if_neg c3] at H
    have c3b0 : ((wrap64 (a0 + 1)) == 0) = false := beq_eq_false_iff_ne.mpr c3
    have c3b1 : ((wrap64 (a0 + 1)) != 0) = true := bne_iff_ne.mpr c3
    by_cases c4 : a0 = 0
    · rw [if_pos c4] at H
      exact absurd H (by simp)
    · rw [if_neg c4] at H
      have c4b0 : (a0 == 0) = false := beq_eq_false_iff_ne.mpr c4
      have c4b1 : (a0 != 0) = true := bne_iff_ne.mpr c4
      obtain rfl := Option.some.inj H
      go_enter Try.func43, Try.ntmps43
      go_wp2
      go_ret
      exact ⟨by first | rfl | (simp; done) | (simp [*]; done), by repeat (first | exact Drawn0.refl _ | apply Drawn0.step)⟩

/-! ### gap_Slot: function 26 -/
def gap_Slot.j0 : Nat → Int → Int → Int → Bool → Option (Int)
  | 0, _, _, _, _ => none
  | k + 1, x0, x1, x2, x20 => if x20 = true then (some (-1)) else ((gap_turned.f x0 x1).bind fun t104 => (if x0 = 0 then (none) else ((gap_Gap.f x0 x1).bind fun t105 => (if (Int.tmod (wrap64 (x2 + t104)) x0) ≥ t105 then (some (wrap64 ((Int.tmod (wrap64 (x2 + t104)) x0) + 1))) else (some (Int.tmod (wrap64 (x2 + t104)) x0))))))
def gap_Slot.f (k : Nat) (a0 : Int) (a1 : Int) (a2 : Int) : Option (Int) := (gap_may.f a0 a1).bind fun t103 => (if t103 = true then (if a2 < 0 then (gap_Slot.j0 k a0 a1 a2 true) else (gap_Slot.j0 k a0 a1 a2 (decide (a2 ≥ a0)))) else (gap_Slot.j0 k a0 a1 a2 true))
theorem gap_Slot.mono_l : ∀ k, (∀ y0 y1 y2 y3, LeO (gap_Slot.j0 k y0 y1 y2 y3) (gap_Slot.j0 (k + 1) y0 y1 y2 y3))
  | 0 => fun _ _ _ _ r h => by simp [gap_Slot.j0] at h
  | k + 1 => by
    have ih0 := gap_Slot.mono_l k
    · intro y0 y1 y2 y3
      unfold gap_Slot.j0
      repeat' first
      | (with_reducible exact ih0 _ _ _ _)
      | (with_reducible exact LeO.refl _)
      | (with_reducible exact LeO.none _)
      | (with_reducible refine LeO.ite ?_ ?_)
      | (with_reducible refine LeO.bind ?_ (fun _ => ?_))
      | exact ih0 _ _ _ _
      | exact LeO.none _
      | refine LeO.ite ?_ ?_
      | refine LeO.bind ?_ (fun _ => ?_)
theorem gap_Slot.mono : ∀ a0 a1 a2 k, LeO (gap_Slot.f k a0 a1 a2) (gap_Slot.f (k + 1) a0 a1 a2) := by
  intro a0 a1 a2 k
  have ih0 := gap_Slot.mono_l k
  unfold gap_Slot.f
  repeat' first
      | (with_reducible exact ih0 _ _ _ _)
      | (with_reducible exact LeO.refl _)
      | (with_reducible exact LeO.none _)
      | (with_reducible refine LeO.ite ?_ ?_)
      | (with_reducible refine LeO.bind ?_ (fun _ => ?_))
      | exact ih0 _ _ _ _
      | exact LeO.none _
      | refine LeO.ite ?_ ?_
      | refine LeO.bind ?_ (fun _ => ?_)
set_option maxHeartbeats 8000000 in
set_option maxRecDepth 100000 in
theorem gap_Slot.calls (k : Nat) (a0 : Int) (a1 : Int) (a2 : Int) (r : Int) (w : World) (h : gap_Slot.f k a0 a1 a2 = some r) :
    Calls Try.prog 26 #[.int .i64 a0, .int .i64 a1, .int .i64 a2] w fun e w' => e = .returned (.int .i64 r) ∧ Drawn0 w w' := by
  have H : ((gap_may.f a0 a1).bind fun t103 => (if t103 = true then (if a2 < 0 then (gap_Slot.j0 k a0 a1 a2 true) else (gap_Slot.j0 k a0 a1 a2 (decide (a2 ≥ a0)))) else (gap_Slot.j0 k a0 a1 a2 true))) = some r := h
  clear h
  have HC4 := Aside0.mk H
  clear H
  go_enter Try.func26, Try.ntmps26
  go_upto_region 1 with (fail)
  go_cut [20] (fun v20 wc => ∃ (kq : Nat) (x20_3 : Bool), v20 = .bool x20_3 ∧ Aside0 (gap_Slot.j0 kq a0 a1 a2 x20_3 = some r) ∧ Aside0 (kq ≤ k) ∧ Drawn0 w wc)
  case first =>
    have H := HC4.out
    clear HC4
    replace H := Option.bind_eq_some_iff.mp H
    obtain ⟨t103, A50, H⟩ := H
    replace H : (if t103 = true then (if a2 < 0 then (gap_Slot.j0 k a0 a1 a2 true) else (gap_Slot.j0 k a0 a1 a2 (decide (a2 ≥ a0)))) else (gap_Slot.j0 k a0 a1 a2 true)) = some r := H
    have A5 := Aside0.mk A50
    clear A50
    by_cases c6 : t103 = true
    · subst c6
      have H1 : (if a2 < 0 then (gap_Slot.j0 k a0 a1 a2 true) else (gap_Slot.j0 k a0 a1 a2 (decide (a2 ≥ a0)))) = some r := by rw [if_pos rfl] at H; exact H
      clear H
      have H := H1
      clear H1
      by_cases c7 : a2 < 0
      · rw [if_pos c7] at H
        have c7b0 : decide (a2 < 0) = true := decide_eq_true c7
        clear c7
        (first | rw [c7b0] | (simp only [i64_w, i32_w]; rw [c7b0]) | skip)
        have H' := Aside0.mk H
        clear H
        go_wp2_with (first | ((with_reducible refine gate_callee (f := 41) rfl ?_); refine goesL_ (some 10) rfl rfl Try.func41 (by kernel_rfl) rfl #[.int .i64 a0, .int .i64 a1] rfl (by (try simp only [List.map_toArray, List.map_cons, List.map_nil]); first | done | rfl | (simp only [List.length_drop, List.length_take]; rfl)) ?_; (with_reducible refine (gap_may.calls a0 a1 true _ A5.out).mono ?_); rintro e w' ⟨rfl, ⟨nd, rfl⟩⟩; refine ⟨_, rfl, ?_⟩))
        go_meet
        case rel => exact ⟨_, (true), (by first | rfl | (simp; done) | (simp [*]; done)), H', ⟨by first | omega | exact Nat.le_refl _⟩, by repeat (first | exact Drawn0.refl _ | apply Drawn0.step)⟩
      · rw [if_neg c7] at H
        have c7b0 : decide (a2 < 0) = false := decide_eq_false c7
        clear c7
        (first | rw [c7b0] | (simp only [i64_w, i32_w]; rw [c7b0]) | skip)
        have H' := Aside0.mk H
        clear H
        go_wp2_with (first | ((with_reducible refine gate_callee (f := 41) rfl ?_); refine goesL_ (some 10) rfl rfl Try.func41 (by kernel_rfl) rfl #[.int .i64 a0, .int .i64 a1] rfl (by (try simp only [List.map_toArray, List.map_cons, List.map_nil]); first | done | rfl | (simp only [List.length_drop, List.length_take]; rfl)) ?_; (with_reducible refine (gap_may.calls a0 a1 true _ A5.out).mono ?_); rintro e w' ⟨rfl, ⟨nd, rfl⟩⟩; refine ⟨_, rfl, ?_⟩))
        go_meet
        case rel => exact ⟨_, (decide (a2 ≥ a0)), (by first | rfl | (simp; done) | (simp [*]; done)), H', ⟨by first | omega | exact Nat.le_refl _⟩, by repeat (first | exact Drawn0.refl _ | apply Drawn0.step)⟩
    · replace c6 := Bool.eq_false_iff.mpr c6
      subst c6
      have H1 : (gap_Slot.j0 k a0 a1 a2 true) = some r := by rw [if_neg (show ¬ (false = true) by decide)] at H; exact H
      clear H
      have H := H1
      clear H1
      have H' := Aside0.mk H
      clear H
      go_wp2_with (first | ((with_reducible refine gate_callee (f := 41) rfl ?_); refine goesL_ (some 10) rfl rfl Try.func41 (by kernel_rfl) rfl #[.int .i64 a0, .int .i64 a1] rfl (by (try simp only [List.map_toArray, List.map_cons, List.map_nil]); first | done | rfl | (simp only [List.length_drop, List.length_take]; rfl)) ?_; (with_reducible refine (gap_may.calls a0 a1 false _ A5.out).mono ?_); rintro e w' ⟨rfl, ⟨nd, rfl⟩⟩; refine ⟨_, rfl, ?_⟩))
      go_meet
      case rel => exact ⟨_, (true), (by first | rfl | (simp; done) | (simp [*]; done)), H', ⟨by first | omega | exact Nat.le_refl _⟩, by repeat (first | exact Drawn0.refl _ | apply Drawn0.step)⟩
  case rest =>
    clear HC4
    try clear c2
    try clear p2
    try clear c4
    try clear c6
    try clear c7
    try clear c7b0
    obtain ⟨kq, x20_3, rfl, HA, HJ3, ⟨mc3, rfl⟩⟩ := hcut
    cases kq with
    | zero => exact absurd HA.out (by simp [gap_Slot.j0])
    | succ kj3 =>
      have H := HA.out
      clear HA
      simp only [gap_Slot.j0] at H
      by_cases c8 : x20_3 = true
      · subst c8
        have H1 : (some (-1)) = some r := by rw [if_pos rfl] at H; exact H
        clear H
        have H := H1
        clear H1
        obtain rfl := Option.some.inj H
        go_wp2
        go_ret
        exact ⟨by first | rfl | (simp; done) | (simp [*]; done), by repeat (first | exact Drawn0.refl _ | apply Drawn0.step)⟩
      · replace c8 := Bool.eq_false_iff.mpr c8
        subst c8
        have H1 : ((gap_turned.f a0 a1).bind fun t104 => (if a0 = 0 then (none) else ((gap_Gap.f a0 a1).bind fun t105 => (if (Int.tmod (wrap64 (a2 + t104)) a0) ≥ t105 then (some (wrap64 ((Int.tmod (wrap64 (a2 + t104)) a0) + 1))) else (some (Int.tmod (wrap64 (a2 + t104)) a0)))))) = some r := by rw [if_neg (show ¬ (false = true) by decide)] at H; exact H
        clear H
        have H := H1
        clear H1
        replace H := Option.bind_eq_some_iff.mp H
        obtain ⟨t104, A90, H⟩ := H
        replace H : (if a0 = 0 then (none) else ((gap_Gap.f a0 a1).bind fun t105 => (if (Int.tmod (wrap64 (a2 + t104)) a0) ≥ t105 then (some (wrap64 ((Int.tmod (wrap64 (a2 + t104)) a0) + 1))) else (some (Int.tmod (wrap64 (a2 + t104)) a0))))) = some r := H
        have A9 := Aside0.mk A90
        clear A90
        by_cases c10 : a0 = 0
        · rw [if_pos c10] at H
          exact absurd H (by simp)
        · rw [if_neg c10] at H
          have c10b0 : (a0 == 0) = false := beq_eq_false_iff_ne.mpr c10
          have c10b1 : (a0 != 0) = true := bne_iff_ne.mpr c10
          replace H := Option.bind_eq_some_iff.mp H
          obtain ⟨t105, A110, H⟩ := H
          replace H : (if (Int.tmod (wrap64 (a2 + t104)) a0) ≥ t105 then (some (wrap64 ((Int.tmod (wrap64 (a2 + t104)) a0) + 1))) else (some (Int.tmod (wrap64 (a2 + t104)) a0))) = some r := H
          have A11 := Aside0.mk A110
          clear A110
          by_cases c12 : (Int.tmod (wrap64 (a2 + t104)) a0) ≥ t105
          · rw [if_pos c12] at H
            have c12b0 : decide (t105 ≤ (Int.tmod (wrap64 (a2 + t104)) a0)) = true := decide_eq_true c12
            clear c12
            obtain rfl := Option.some.inj H
            go_wp2_with (first | ((with_reducible refine gate_callee (f := 43) rfl ?_); refine goesL_ (some 24) rfl rfl Try.func43 (by kernel_rfl) rfl #[.int .i64 a0, .int .i64 a1] rfl (by (try simp only [List.map_toArray, List.map_cons, List.map_nil]); first | done | rfl | (simp only [List.length_drop, List.length_take]; rfl)) ?_; (with_reducible refine (gap_turned.calls a0 a1 t104 _ A9.out).mono ?_); rintro e w' ⟨rfl, ⟨nd, rfl⟩⟩; refine ⟨_, rfl, ?_⟩) | ((with_reducible refine gate_callee (f := 24) rfl ?_); refine goesL_ (some 31) rfl rfl Try.func24 (by kernel_rfl) rfl #[.int .i64 a0, .int .i64 a1] rfl (by (try simp only [List.map_toArray, List.map_cons, List.map_nil]); first | done | rfl | (simp only [List.length_drop, List.length_take]; rfl)) ?_; (with_reducible refine (gap_Gap.calls a0 a1 t105 _ A11.out).mono ?_); rintro e w' ⟨rfl, ⟨nd, rfl⟩⟩; refine ⟨_, rfl, ?_⟩))
            go_ret
            exact ⟨by first | rfl | (simp; done) | (simp [*]; done), by repeat (first | exact Drawn0.refl _ | apply Drawn0.step)⟩
          · rw [if_neg c12] at H
            have c12b0 : decide (t105 ≤ (Int.tmod (wrap64 (a2 + t104)) a0)) = false := decide_eq_false c12
            clear c12
            obtain rfl := Option.some.inj H
            go_wp2_with (first | ((with_reducible refine gate_callee (f := 43) rfl ?_); refine goesL_ (some 24) rfl rfl Try.func43 (by kernel_rfl) rfl #[.int .i64 a0, .int .i64 a1] rfl (by (try simp only [List.map_toArray, List.map_cons, List.map_nil]); first | done | rfl | (simp only [List.length_drop, List.length_take]; rfl)) ?_; (with_reducible refine (gap_turned.calls a0 a1 t104 _ A9.out).mono ?_); rintro e w' ⟨rfl, ⟨nd, rfl⟩⟩; refine ⟨_, rfl, ?_⟩) | ((with_reducible refine gate_callee (f := 24) rfl ?_); refine goesL_ (some 31) rfl rfl Try.func24 (by kernel_rfl) rfl #[.int .i64 a0, .int .i64 a1] rfl (by (try simp only [List.map_toArray, List.map_cons, List.map_nil]); first | done | rfl | (simp only [List.length_drop, List.length_take]; rfl)) ?_; (with_reducible refine (gap_Gap.calls a0 a1 t105 _ A11.out).mono ?_); rintro e w' ⟨rfl, ⟨nd, rfl⟩⟩; refine ⟨_, rfl, ?_⟩))
            go_ret
            exact ⟨by first | rfl | (simp; done) | (simp [*]; done), by repeat (first | exact Drawn0.refl _ | apply Drawn0.step)⟩

/-! ### gap_Line: function 28 -/
def gap_Line.j0 : Nat → Int → Int → Int → Int → Bool → Option (Int)
  | 0, _, _, _, _, _ => none
  | k + 1, x0, x1, x2, x7, x28 => if x28 = true then (some (-1)) else (if x2 > x7 then ((gap_turned.f x0 x1).bind fun t108 => (if x0 = 0 then (none) else (some (Int.tmod (wrap64 ((wrap64 ((wrap64 (x2 - 1)) + x0)) - t108)) x0)))) else ((gap_turned.f x0 x1).bind fun t109 => (if x0 = 0 then (none) else (some (Int.tmod (wrap64 ((wrap64 (x2 + x0)) - t109)) x0)))))
def gap_Line.f (k : Nat) (a0 : Int) (a1 : Int) (a2 : Int) : Option (Int) := (gap_Gap.f a0 a1).bind fun t106 => ((gap_may.f a0 a1).bind fun t107 => (if t107 = true then (if a2 < 0 then (gap_Line.j0 k a0 a1 a2 t106 true) else (if a2 > a0 then (gap_Line.j0 k a0 a1 a2 t106 true) else (gap_Line.j0 k a0 a1 a2 t106 (a2 == t106)))) else (gap_Line.j0 k a0 a1 a2 t106 true)))
theorem gap_Line.mono_l : ∀ k, (∀ y0 y1 y2 y3 y4, LeO (gap_Line.j0 k y0 y1 y2 y3 y4) (gap_Line.j0 (k + 1) y0 y1 y2 y3 y4))
  | 0 => fun _ _ _ _ _ r h => by simp [gap_Line.j0] at h
  | k + 1 => by
    have ih0 := gap_Line.mono_l k
    · intro y0 y1 y2 y3 y4
      unfold gap_Line.j0
      repeat' first
      | (with_reducible exact ih0 _ _ _ _ _)
      | (with_reducible exact LeO.refl _)
      | (with_reducible exact LeO.none _)
      | (with_reducible refine LeO.ite ?_ ?_)
      | (with_reducible refine LeO.bind ?_ (fun _ => ?_))
      | exact ih0 _ _ _ _ _
      | exact LeO.none _
      | refine LeO.ite ?_ ?_
      | refine LeO.bind ?_ (fun _ => ?_)
theorem gap_Line.mono : ∀ a0 a1 a2 k, LeO (gap_Line.f k a0 a1 a2) (gap_Line.f (k + 1) a0 a1 a2) := by
  intro a0 a1 a2 k
  have ih0 := gap_Line.mono_l k
  unfold gap_Line.f
  repeat' first
      | (with_reducible exact ih0 _ _ _ _ _)
      | (with_reducible exact LeO.refl _)
      | (with_reducible exact LeO.none _)
      | (with_reducible refine LeO.ite ?_ ?_)
      | (with_reducible refine LeO.bind ?_ (fun _ => ?_))
      | exact ih0 _ _ _ _ _
      | exact LeO.none _
      | refine LeO.ite ?_ ?_
      | refine LeO.bind ?_ (fun _ => ?_)
set_option maxHeartbeats 8000000 in
set_option maxRecDepth 100000 in
theorem gap_Line.calls (k : Nat) (a0 : Int) (a1 : Int) (a2 : Int) (r : Int) (w : World) (h : gap_Line.f k a0 a1 a2 = some r) :
    Calls Try.prog 28 #[.int .i64 a0, .int .i64 a1, .int .i64 a2] w fun e w' => e = .returned (.int .i64 r) ∧ Drawn0 w w' := by
  have H : ((gap_Gap.f a0 a1).bind fun t106 => ((gap_may.f a0 a1).bind fun t107 => (if t107 = true then (if a2 < 0 then (gap_Line.j0 k a0 a1 a2 t106 true) else (if a2 > a0 then (gap_Line.j0 k a0 a1 a2 t106 true) else (gap_Line.j0 k a0 a1 a2 t106 (a2 == t106)))) else (gap_Line.j0 k a0 a1 a2 t106 true)))) = some r := h
  clear h
  replace H := Option.bind_eq_some_iff.mp H
  obtain ⟨t106, A40, H⟩ := H
  replace H : ((gap_may.f a0 a1).bind fun t107 => (if t107 = true then (if a2 < 0 then (gap_Line.j0 k a0 a1 a2 t106 true) else (if a2 > a0 then (gap_Line.j0 k a0 a1 a2 t106 true) else (gap_Line.j0 k a0 a1 a2 t106 (a2 == t106)))) else (gap_Line.j0 k a0 a1 a2 t106 true))) = some r := H
  have A4 := Aside0.mk A40
  clear A40
  have HC5 := Aside0.mk H
  clear H
  go_enter Try.func28, Try.ntmps28
  go_upto_region 2 with (first | ((with_reducible refine gate_callee (f := 24) rfl ?_); refine goesL_ (some 10) rfl rfl Try.func24 (by kernel_rfl) rfl #[.int .i64 a0, .int .i64 a1] rfl (by (try simp only [List.map_toArray, List.map_cons, List.map_nil]); first | done | rfl | (simp only [List.length_drop, List.length_take]; rfl)) ?_; (with_reducible refine (gap_Gap.calls a0 a1 t106 _ A4.out).mono ?_); rintro e w' ⟨rfl, ⟨nd, rfl⟩⟩; refine ⟨_, rfl, ?_⟩))
  (try simp only [Act.put, List.setIfInBounds_toArray, List.set_cons_zero, List.set_cons_succ])
  go_cut [28] (fun v28 wc => ∃ (kq : Nat) (x28_4 : Bool), v28 = .bool x28_4 ∧ Aside0 (gap_Line.j0 kq a0 a1 a2 t106 x28_4 = some r) ∧ Aside0 (kq ≤ k) ∧ Drawn0 w wc)
  case first =>
    have H := HC5.out
    clear HC5
    replace H := Option.bind_eq_some_iff.mp H
    obtain ⟨t107, A60, H⟩ := H
    replace H : (if t107 = true then (if a2 < 0 then (gap_Line.j0 k a0 a1 a2 t106 true) else (if a2 > a0 then (gap_Line.j0 k a0 a1 a2 t106 true) else (gap_Line.j0 k a0 a1 a2 t106 (a2 == t106)))) else (gap_Line.j0 k a0 a1 a2 t106 true)) = some r := H
    have A6 := Aside0.mk A60
    clear A60
    by_cases c7 : t107 = true
    · subst c7
      have H1 : (if a2 < 0 then (gap_Line.j0 k a0 a1 a2 t106 true) else (if a2 > a0 then (gap_Line.j0 k a0 a1 a2 t106 true) else (gap_Line.j0 k a0 a1 a2 t106 (a2 == t106)))) = some r := by rw [if_pos rfl] at H; exact H
      clear H
      have H := H1
      clear H1
      by_cases c8 : a2 < 0
      · rw [if_pos c8] at H
        have c8b0 : decide (a2 < 0) = true := decide_eq_true c8
        clear c8
        (first | rw [c8b0] | (simp only [i64_w, i32_w]; rw [c8b0]) | skip)
        have H' := Aside0.mk H
        clear H
        go_wp2_with (first | ((with_reducible refine gate_callee (f := 41) rfl ?_); refine goesL_ (some 13) rfl rfl Try.func41 (by kernel_rfl) rfl #[.int .i64 a0, .int .i64 a1] rfl (by (try simp only [List.map_toArray, List.map_cons, List.map_nil]); first | done | rfl | (simp only [List.length_drop, List.length_take]; rfl)) ?_; (with_reducible refine (gap_may.calls a0 a1 true _ A6.out).mono ?_); rintro e w' ⟨rfl, ⟨nd, rfl⟩⟩; refine ⟨_, rfl, ?_⟩))
        go_meet
        case rel => exact ⟨_, (true), (by first | rfl | (simp; done) | (simp [*]; done)), H', ⟨by first | omega | exact Nat.le_refl _⟩, by repeat (first | exact Drawn0.refl _ | apply Drawn0.step)⟩
      · rw [if_neg c8] at H
        have c8b0 : decide (a2 < 0) = false := decide_eq_false c8
        clear c8
        (first | rw [c8b0] | (simp only [i64_w, i32_w]; rw [c8b0]) | skip)
        by_cases c9 : a2 > a0
        · rw [if_pos c9] at H
          have c9b0 : decide (a0 < a2) = true := decide_eq_true c9
          clear c9
          have H' := Aside0.mk H
          clear H
          go_wp2_with (first | ((with_reducible refine gate_callee (f := 41) rfl ?_); refine goesL_ (some 13) rfl rfl Try.func41 (by kernel_rfl) rfl #[.int .i64 a0, .int .i64 a1] rfl (by (try simp only [List.map_toArray, List.map_cons, List.map_nil]); first | done | rfl | (simp only [List.length_drop, List.length_take]; rfl)) ?_; (with_reducible refine (gap_may.calls a0 a1 true _ A6.out).mono ?_); rintro e w' ⟨rfl, ⟨nd, rfl⟩⟩; refine ⟨_, rfl, ?_⟩))
          go_meet
          case rel => exact ⟨_, (true), (by first | rfl | (simp; done) | (simp [*]; done)), H', ⟨by first | omega | exact Nat.le_refl _⟩, by repeat (first | exact Drawn0.refl _ | apply Drawn0.step)⟩
        · rw [if_neg c9] at H
          have c9b0 : decide (a0 < a2) = false := decide_eq_false c9
          clear c9
          have H' := Aside0.mk H
          clear H
          go_wp2_with (first | ((with_reducible refine gate_callee (f := 41) rfl ?_); refine goesL_ (some 13) rfl rfl Try.func41 (by kernel_rfl) rfl #[.int .i64 a0, .int .i64 a1] rfl (by (try simp only [List.map_toArray, List.map_cons, List.map_nil]); first | done | rfl | (simp only [List.length_drop, List.length_take]; rfl)) ?_; (with_reducible refine (gap_may.calls a0 a1 true _ A6.out).mono ?_); rintro e w' ⟨rfl, ⟨nd, rfl⟩⟩; refine ⟨_, rfl, ?_⟩))
          go_meet
          case rel => exact ⟨_, ((a2 == t106)), (by first | rfl | (simp; done) | (simp [*]; done)), H', ⟨by first | omega | exact Nat.le_refl _⟩, by repeat (first | exact Drawn0.refl _ | apply Drawn0.step)⟩
    · replace c7 := Bool.eq_false_iff.mpr c7
      subst c7
      have H1 : (gap_Line.j0 k a0 a1 a2 t106 true) = some r := by rw [if_neg (show ¬ (false = true) by decide)] at H; exact H
      clear H
      have H := H1
      clear H1
      have H' := Aside0.mk H
      clear H
      go_wp2_with (first | ((with_reducible refine gate_callee (f := 41) rfl ?_); refine goesL_ (some 13) rfl rfl Try.func41 (by kernel_rfl) rfl #[.int .i64 a0, .int .i64 a1] rfl (by (try simp only [List.map_toArray, List.map_cons, List.map_nil]); first | done | rfl | (simp only [List.length_drop, List.length_take]; rfl)) ?_; (with_reducible refine (gap_may.calls a0 a1 false _ A6.out).mono ?_); rintro e w' ⟨rfl, ⟨nd, rfl⟩⟩; refine ⟨_, rfl, ?_⟩))
      go_meet
      case rel => exact ⟨_, (true), (by first | rfl | (simp; done) | (simp [*]; done)), H', ⟨by first | omega | exact Nat.le_refl _⟩, by repeat (first | exact Drawn0.refl _ | apply Drawn0.step)⟩
  case rest =>
    clear HC5
    try clear c2
    try clear p2
    try clear c4
    try clear c7
    try clear c8
    try clear c8b0
    try clear c9
    try clear c9b0
    obtain ⟨kq, x28_4, rfl, HA, HJ4, ⟨mc4, rfl⟩⟩ := hcut
    cases kq with
    | zero => exact absurd HA.out (by simp [gap_Line.j0])
    | succ kj4 =>
      have H := HA.out
      clear HA
      simp only [gap_Line.j0] at H
      by_cases c10 : x28_4 = true
      · subst c10
        have H1 : (some (-1)) = some r := by rw [if_pos rfl] at H; exact H
        clear H
        have H := H1
        clear H1
        obtain rfl := Option.some.inj H
        go_wp2
        go_ret
        exact ⟨by first | rfl | (simp; done) | (simp [*]; done), by repeat (first | exact Drawn0.refl _ | apply Drawn0.step)⟩
      · replace c10 := Bool.eq_false_iff.mpr c10
        subst c10
        have H1 : (if a2 > t106 then ((gap_turned.f a0 a1).bind fun t108 => (if a0 = 0 then (none) else (some (Int.tmod (wrap64 ((wrap64 ((wrap64 (a2 - 1)) + a0)) - t108)) a0)))) else ((gap_turned.f a0 a1).bind fun t109 => (if a0 = 0 then (none) else (some (Int.tmod (wrap64 ((wrap64 (a2 + a0)) - t109)) a0))))) = some r := by rw [if_neg (show ¬ (false = true) by decide)] at H; exact H
        clear H
        have H := H1
        clear H1
        by_cases c11 : a2 > t106
        · rw [if_pos c11] at H
          have c11b0 : decide (t106 < a2) = true := decide_eq_true c11
          clear c11
          replace H := Option.bind_eq_some_iff.mp H
          obtain ⟨t108, A120, H⟩ := H
          replace H : (if a0 = 0 then (none) else (some (Int.tmod (wrap64 ((wrap64 ((wrap64 (a2 - 1)) + a0)) - t108)) a0))) = some r := H
          have A12 := Aside0.mk A120
          clear A120
          by_cases c13 : a0 = 0
          · rw [if_pos c13] at H
            exact absurd H (by simp)
          · rw [if_neg c13] at H
            have c13b0 : (a0 == 0) = false := beq_eq_false_iff_ne.mpr c13
            have c13b1 : (a0 != 0) = true := bne_iff_ne.mpr c13
            obtain rfl := Option.some.inj H
            go_wp2_with (first | ((with_reducible refine gate_callee (f := 43) rfl ?_); refine goesL_ (some 39) rfl rfl Try.func43 (by kernel_rfl) rfl #[.int .i64 a0, .int .i64 a1] rfl (by (try simp only [List.map_toArray, List.map_cons, List.map_nil]); first | done | rfl | (simp only [List.length_drop, List.length_take]; rfl)) ?_; (with_reducible refine (gap_turned.calls a0 a1 t108 _ A12.out).mono ?_); rintro e w' ⟨rfl, ⟨nd, rfl⟩⟩; refine ⟨_, rfl, ?_⟩))
            go_ret
            exact ⟨by first | rfl | (simp; done) | (simp [*]; done), by repeat (first | exact Drawn0.refl _ | apply Drawn0.step)⟩
        · rw [if_neg c11] at H
          have c11b0 : decide (t106 < a2) = false := decide_eq_false c11
          clear c11
          replace H := Option.bind_eq_some_iff.mp H
          obtain ⟨t109, A140, H⟩ := H
          replace H : (if a0 = 0 then (none) else (some (Int.tmod (wrap64 ((wrap64 (a2 + a0)) - t109)) a0))) = some r := H
          have A14 := Aside0.mk A140
          clear A140
          by_cases c15 : a0 = 0
          · rw [if_pos c15] at H
            exact absurd H (by simp)
          · rw [if_neg c15] at H
            have c15b0 : (a0 == 0) = false := beq_eq_false_iff_ne.mpr c15
            have c15b1 : (a0 != 0) = true := bne_iff_ne.mpr c15
            obtain rfl := Option.some.inj H
            go_wp2_with (first | ((with_reducible refine gate_callee (f := 43) rfl ?_); refine goesL_ (some 39) rfl rfl Try.func43 (by kernel_rfl) rfl #[.int .i64 a0, .int .i64 a1] rfl (by (try simp only [List.map_toArray, List.map_cons, List.map_nil]); first | done | rfl | (simp only [List.length_drop, List.length_take]; rfl)) ?_; (with_reducible refine (gap_turned.calls a0 a1 t109 _ A14.out).mono ?_); rintro e w' ⟨rfl, ⟨nd, rfl⟩⟩; refine ⟨_, rfl, ?_⟩))
            go_ret
            exact ⟨by first | rfl | (simp; done) | (simp [*]; done), by repeat (first | exact Drawn0.refl _ | apply Drawn0.step)⟩

/-! ### darninglaw8_awake: function 30 -/
def darninglaw8_awake.f (k : Nat)  : Option (Bool) := (gap_Move.f 3 0).bind fun bt110 => ((gap_Gap.f 3 0).bind fun t112 => (if t112 = 3 then ((gap_Slot.f k 3 0 1).bind fun t113 => (if t113 = 1 then ((gap_Slot.f k 3 1 2).bind fun t114 => (if t114 = 3 then (if bt110.1 = 2 then (if bt110.2 = 3 then ((gap_Line.f k 3 1 3).bind fun t115 => (some (t115 == 2))) else (some false)) else (some false)) else (some false))) else (some false))) else (some false)))
theorem darninglaw8_awake.mono : ∀ k, LeO (darninglaw8_awake.f k ) (darninglaw8_awake.f (k + 1) ) := by
  intro  k
  unfold darninglaw8_awake.f
  repeat' first
      | (with_reducible exact gap_Line.mono _ _ _ _)
      | (with_reducible exact gap_Slot.mono _ _ _ _)
      | (with_reducible exact LeO.refl _)
      | (with_reducible exact LeO.none _)
      | (with_reducible refine LeO.ite ?_ ?_)
      | (with_reducible refine LeO.bind ?_ (fun _ => ?_))
      | exact gap_Line.mono _ _ _ _
      | exact gap_Slot.mono _ _ _ _
      | exact LeO.none _
      | refine LeO.ite ?_ ?_
      | refine LeO.bind ?_ (fun _ => ?_)
set_option maxHeartbeats 8000000 in
set_option maxRecDepth 100000 in
theorem darninglaw8_awake.calls (k : Nat)  (r : Bool) (w : World) (h : darninglaw8_awake.f k  = some r) :
    Calls Try.prog 30 #[] w fun e w' => e = .returned (.bool r) ∧ Drawn0 w w' := by
  have H : ((gap_Move.f 3 0).bind fun bt110 => ((gap_Gap.f 3 0).bind fun t112 => (if t112 = 3 then ((gap_Slot.f k 3 0 1).bind fun t113 => (if t113 = 1 then ((gap_Slot.f k 3 1 2).bind fun t114 => (if t114 = 3 then (if bt110.1 = 2 then (if bt110.2 = 3 then ((gap_Line.f k 3 1 3).bind fun t115 => (some (t115 == 2))) else (some false)) else (some false)) else (some false))) else (some false))) else (some false)))) = some r := h
  clear h
  replace H := Option.bind_eq_some_iff.mp H
  obtain ⟨⟨t110, t111⟩, A10, H⟩ := H
  replace H : ((gap_Gap.f 3 0).bind fun t112 => (if t112 = 3 then ((gap_Slot.f k 3 0 1).bind fun t113 => (if t113 = 1 then ((gap_Slot.f k 3 1 2).bind fun t114 => (if t114 = 3 then (if t110 = 2 then (if t111 = 3 then ((gap_Line.f k 3 1 3).bind fun t115 => (some (t115 == 2))) else (some false)) else (some false)) else (some false))) else (some false))) else (some false))) = some r := H
  have A1 := Aside0.mk A10
  clear A10
  replace H := Option.bind_eq_some_iff.mp H
  obtain ⟨t112, A20, H⟩ := H
  replace H : (if t112 = 3 then ((gap_Slot.f k 3 0 1).bind fun t113 => (if t113 = 1 then ((gap_Slot.f k 3 1 2).bind fun t114 => (if t114 = 3 then (if t110 = 2 then (if t111 = 3 then ((gap_Line.f k 3 1 3).bind fun t115 => (some (t115 == 2))) else (some false)) else (some false)) else (some false))) else (some false))) else (some false)) = some r := H
  have A2 := Aside0.mk A20
  clear A20
  by_cases c3 : t112 = 3
  · rw [if_pos c3] at H
    have c3b0 : (t112 == 3) = true := beq_iff_eq.mpr c3
    have c3b1 : (t112 != 3) = false := bne_eq_false_iff_eq.mpr c3
    clear c3
    replace H := Option.bind_eq_some_iff.mp H
    obtain ⟨t113, A40, H⟩ := H
    replace H : (if t113 = 1 then ((gap_Slot.f k 3 1 2).bind fun t114 => (if t114 = 3 then (if t110 = 2 then (if t111 = 3 then ((gap_Line.f k 3 1 3).bind fun t115 => (some (t115 == 2))) else (some false)) else (some false)) else (some false))) else (some false)) = some r := H
    have A4 := Aside0.mk A40
    clear A40
    by_cases c5 : t113 = 1
    · rw [if_pos c5] at H
      have c5b0 : (t113 == 1) = true := beq_iff_eq.mpr c5
      have c5b1 : (t113 != 1) = false := bne_eq_false_iff_eq.mpr c5
      clear c5
      replace H := Option.bind_eq_some_iff.mp H
      obtain ⟨t114, A60, H⟩ := H
      replace H : (if t114 = 3 then (if t110 = 2 then (if t111 = 3 then ((gap_Line.f k 3 1 3).bind fun t115 => (some (t115 == 2))) else (some false)) else (some false)) else (some false)) = some r := H
      have A6 := Aside0.mk A60
      clear A60
      by_cases c7 : t114 = 3
      · rw [if_pos c7] at H
        have c7b0 : (t114 == 3) = true := beq_iff_eq.mpr c7
        have c7b1 : (t114 != 3) = false := bne_eq_false_iff_eq.mpr c7
        clear c7
        by_cases c8 : t110 = 2
        · rw [if_pos c8] at H
          have c8b0 : (t110 == 2) = true := beq_iff_eq.mpr c8
          have c8b1 : (t110 != 2) = false := bne_eq_false_iff_eq.mpr c8
          clear c8
          by_cases c9 : t111 = 3
          · rw [if_pos c9] at H
            have c9b0 : (t111 == 3) = true := beq_iff_eq.mpr c9
            have c9b1 : (t111 != 3) = false := bne_eq_false_iff_eq.mpr c9
            clear c9
            replace H := Option.bind_eq_some_iff.mp H
            obtain ⟨t115, A100, H⟩ := H
            replace H : (some (t115 == 2)) = some r := H
            have A10 := Aside0.mk A100
            clear A100
            obtain rfl := Option.some.inj H
            go_enter Try.func30, Try.ntmps30
            go_wp2_with (first | ((with_reducible refine gate_callee (f := 22) rfl ?_); refine goesL_ (some 4) rfl rfl Try.func22 (by kernel_rfl) rfl #[.int .i64 3, .int .i64 0] rfl (by (try simp only [List.map_toArray, List.map_cons, List.map_nil]); first | done | rfl | (simp only [List.length_drop, List.length_take]; rfl)) ?_; (with_reducible refine (gap_Move.calls 3 0 t110 t111 _ A1.out).mono ?_); rintro e w' ⟨rfl, ⟨nd, rfl⟩⟩; refine ⟨_, rfl, ?_⟩) | ((with_reducible refine gate_callee (f := 24) rfl ?_); refine goesL_ (some 7) rfl rfl Try.func24 (by kernel_rfl) rfl #[.int .i64 3, .int .i64 0] rfl (by (try simp only [List.map_toArray, List.map_cons, List.map_nil]); first | done | rfl | (simp only [List.length_drop, List.length_take]; rfl)) ?_; (with_reducible refine (gap_Gap.calls 3 0 t112 _ A2.out).mono ?_); rintro e w' ⟨rfl, ⟨nd, rfl⟩⟩; refine ⟨_, rfl, ?_⟩) | (go_at_call 26; (with_reducible refine (gap_Slot.calls k 3 0 1 t113 _ A4.out).mono ?_); rintro e w' ⟨rfl, ⟨nd, rfl⟩⟩) | (go_at_call 26; (with_reducible refine (gap_Slot.calls k 3 1 2 t114 _ A6.out).mono ?_); rintro e w' ⟨rfl, ⟨nd, rfl⟩⟩) | (go_at_call 28; (with_reducible refine (gap_Line.calls k 3 1 3 t115 _ A10.out).mono ?_); rintro e w' ⟨rfl, ⟨nd, rfl⟩⟩))
            go_ret
            exact ⟨by first | rfl | (simp; done) | (simp [*]; done), by repeat (first | exact Drawn0.refl _ | apply Drawn0.step)⟩
          · rw [if_neg c9] at H
            have c9b0 : (t111 == 3) = false := beq_eq_false_iff_ne.mpr c9
            have c9b1 : (t111 != 3) = true := bne_iff_ne.mpr c9
            obtain rfl := Option.some.inj H
            go_enter Try.func30, Try.ntmps30
            go_wp2_with (first | ((with_reducible refine gate_callee (f := 22) rfl ?_); refine goesL_ (some 4) rfl rfl Try.func22 (by kernel_rfl) rfl #[.int .i64 3, .int .i64 0] rfl (by (try simp only [List.map_toArray, List.map_cons, List.map_nil]); first | done | rfl | (simp only [List.length_drop, List.length_take]; rfl)) ?_; (with_reducible refine (gap_Move.calls 3 0 t110 t111 _ A1.out).mono ?_); rintro e w' ⟨rfl, ⟨nd, rfl⟩⟩; refine ⟨_, rfl, ?_⟩) | ((with_reducible refine gate_callee (f := 24) rfl ?_); refine goesL_ (some 7) rfl rfl Try.func24 (by kernel_rfl) rfl #[.int .i64 3, .int .i64 0] rfl (by (try simp only [List.map_toArray, List.map_cons, List.map_nil]); first | done | rfl | (simp only [List.length_drop, List.length_take]; rfl)) ?_; (with_reducible refine (gap_Gap.calls 3 0 t112 _ A2.out).mono ?_); rintro e w' ⟨rfl, ⟨nd, rfl⟩⟩; refine ⟨_, rfl, ?_⟩) | (go_at_call 26; (with_reducible refine (gap_Slot.calls k 3 0 1 t113 _ A4.out).mono ?_); rintro e w' ⟨rfl, ⟨nd, rfl⟩⟩) | (go_at_call 26; (with_reducible refine (gap_Slot.calls k 3 1 2 t114 _ A6.out).mono ?_); rintro e w' ⟨rfl, ⟨nd, rfl⟩⟩))
            go_ret
            exact ⟨by first | rfl | (simp; done) | (simp [*]; done), by repeat (first | exact Drawn0.refl _ | apply Drawn0.step)⟩
        · rw [if_neg c8] at H
          have c8b0 : (t110 == 2) = false := beq_eq_false_iff_ne.mpr c8
          have c8b1 : (t110 != 2) = true := bne_iff_ne.mpr c8
          obtain rfl := Option.some.inj H
          go_enter Try.func30, Try.ntmps30
          go_wp2_with (first | ((with_reducible refine gate_callee (f := 22) rfl ?_); refine goesL_ (some 4) rfl rfl Try.func22 (by kernel_rfl) rfl #[.int .i64 3, .int .i64 0] rfl (by (try simp only [List.map_toArray, List.map_cons, List.map_nil]); first | done | rfl | (simp only [List.length_drop, List.length_take]; rfl)) ?_; (with_reducible refine (gap_Move.calls 3 0 t110 t111 _ A1.out).mono ?_); rintro e w' ⟨rfl, ⟨nd, rfl⟩⟩; refine ⟨_, rfl, ?_⟩) | ((with_reducible refine gate_callee (f := 24) rfl ?_); refine goesL_ (some 7) rfl rfl Try.func24 (by kernel_rfl) rfl #[.int .i64 3, .int .i64 0] rfl (by (try simp only [List.map_toArray, List.map_cons, List.map_nil]); first | done | rfl | (simp only [List.length_drop, List.length_take]; rfl)) ?_; (with_reducible refine (gap_Gap.calls 3 0 t112 _ A2.out).mono ?_); rintro e w' ⟨rfl, ⟨nd, rfl⟩⟩; refine ⟨_, rfl, ?_⟩) | (go_at_call 26; (with_reducible refine (gap_Slot.calls k 3 0 1 t113 _ A4.out).mono ?_); rintro e w' ⟨rfl, ⟨nd, rfl⟩⟩) | (go_at_call 26; (with_reducible refine (gap_Slot.calls k 3 1 2 t114 _ A6.out).mono ?_); rintro e w' ⟨rfl, ⟨nd, rfl⟩⟩))
          go_ret
          exact ⟨by first | rfl | (simp; done) | (simp [*]; done), by repeat (first | exact Drawn0.refl _ | apply Drawn0.step)⟩
      · rw [if_neg c7] at H
        have c7b0 : (t114 == 3) = false := beq_eq_false_iff_ne.mpr c7
        have c7b1 : (t114 != 3) = true := bne_iff_ne.mpr c7
        obtain rfl := Option.some.inj H
        go_enter Try.func30, Try.ntmps30
        go_wp2_with (first | ((with_reducible refine gate_callee (f := 22) rfl ?_); refine goesL_ (some 4) rfl rfl Try.func22 (by kernel_rfl) rfl #[.int .i64 3, .int .i64 0] rfl (by (try simp only [List.map_toArray, List.map_cons, List.map_nil]); first | done | rfl | (simp only [List.length_drop, List.length_take]; rfl)) ?_; (with_reducible refine (gap_Move.calls 3 0 t110 t111 _ A1.out).mono ?_); rintro e w' ⟨rfl, ⟨nd, rfl⟩⟩; refine ⟨_, rfl, ?_⟩) | ((with_reducible refine gate_callee (f := 24) rfl ?_); refine goesL_ (some 7) rfl rfl Try.func24 (by kernel_rfl) rfl #[.int .i64 3, .int .i64 0] rfl (by (try simp only [List.map_toArray, List.map_cons, List.map_nil]); first | done | rfl | (simp only [List.length_drop, List.length_take]; rfl)) ?_; (with_reducible refine (gap_Gap.calls 3 0 t112 _ A2.out).mono ?_); rintro e w' ⟨rfl, ⟨nd, rfl⟩⟩; refine ⟨_, rfl, ?_⟩) | (go_at_call 26; (with_reducible refine (gap_Slot.calls k 3 0 1 t113 _ A4.out).mono ?_); rintro e w' ⟨rfl, ⟨nd, rfl⟩⟩) | (go_at_call 26; (with_reducible refine (gap_Slot.calls k 3 1 2 t114 _ A6.out).mono ?_); rintro e w' ⟨rfl, ⟨nd, rfl⟩⟩))
        go_ret
        exact ⟨by first | rfl | (simp; done) | (simp [*]; done), by repeat (first | exact Drawn0.refl _ | apply Drawn0.step)⟩
    · rw [if_neg c5] at H
      have c5b0 : (t113 == 1) = false := beq_eq_false_iff_ne.mpr c5
      have c5b1 : (t113 != 1) = true := bne_iff_ne.mpr c5
      obtain rfl := Option.some.inj H
      go_enter Try.func30, Try.ntmps30
      go_wp2_with (first | ((with_reducible refine gate_callee (f := 22) rfl ?_); refine goesL_ (some 4) rfl rfl Try.func22 (by kernel_rfl) rfl #[.int .i64 3, .int .i64 0] rfl (by (try simp only [List.map_toArray, List.map_cons, List.map_nil]); first | done | rfl | (simp only [List.length_drop, List.length_take]; rfl)) ?_; (with_reducible refine (gap_Move.calls 3 0 t110 t111 _ A1.out).mono ?_); rintro e w' ⟨rfl, ⟨nd, rfl⟩⟩; refine ⟨_, rfl, ?_⟩) | ((with_reducible refine gate_callee (f := 24) rfl ?_); refine goesL_ (some 7) rfl rfl Try.func24 (by kernel_rfl) rfl #[.int .i64 3, .int .i64 0] rfl (by (try simp only [List.map_toArray, List.map_cons, List.map_nil]); first | done | rfl | (simp only [List.length_drop, List.length_take]; rfl)) ?_; (with_reducible refine (gap_Gap.calls 3 0 t112 _ A2.out).mono ?_); rintro e w' ⟨rfl, ⟨nd, rfl⟩⟩; refine ⟨_, rfl, ?_⟩) | (go_at_call 26; (with_reducible refine (gap_Slot.calls k 3 0 1 t113 _ A4.out).mono ?_); rintro e w' ⟨rfl, ⟨nd, rfl⟩⟩))
      go_ret
      exact ⟨by first | rfl | (simp; done) | (simp [*]; done), by repeat (first | exact Drawn0.refl _ | apply Drawn0.step)⟩
  · rw [if_neg c3] at H
    have c3b0 : (t112 == 3) = false := beq_eq_false_iff_ne.mpr c3
    have c3b1 : (t112 != 3) = true := bne_iff_ne.mpr c3
    obtain rfl := Option.some.inj H
    go_enter Try.func30, Try.ntmps30
    go_wp2_with (first | ((with_reducible refine gate_callee (f := 22) rfl ?_); refine goesL_ (some 4) rfl rfl Try.func22 (by kernel_rfl) rfl #[.int .i64 3, .int .i64 0] rfl (by (try simp only [List.map_toArray, List.map_cons, List.map_nil]); first | done | rfl | (simp only [List.length_drop, List.length_take]; rfl)) ?_; (with_reducible refine (gap_Move.calls 3 0 t110 t111 _ A1.out).mono ?_); rintro e w' ⟨rfl, ⟨nd, rfl⟩⟩; refine ⟨_, rfl, ?_⟩) | ((with_reducible refine gate_callee (f := 24) rfl ?_); refine goesL_ (some 7) rfl rfl Try.func24 (by kernel_rfl) rfl #[.int .i64 3, .int .i64 0] rfl (by (try simp only [List.map_toArray, List.map_cons, List.map_nil]); first | done | rfl | (simp only [List.length_drop, List.length_take]; rfl)) ?_; (with_reducible refine (gap_Gap.calls 3 0 t112 _ A2.out).mono ?_); rintro e w' ⟨rfl, ⟨nd, rfl⟩⟩; refine ⟨_, rfl, ?_⟩))
    go_ret
    exact ⟨by first | rfl | (simp; done) | (simp [*]; done), by repeat (first | exact Drawn0.refl _ | apply Drawn0.step)⟩

/-! ### darninglaw8_GapMoves: function 8, told by hand -/
open Go.Maps
/-- What a move is, in numbers alone: from, to, the line that moves; each line's slots ahead of the move and behind it. -/
def GapFacts (k : Nat) (n m fr to_ mv : Int) : Prop :=
  gap_Move.f n m = some (fr, to_) ∧ gap_Line.f k n m fr = some mv ∧ gap_Gap.f n m = some to_ ∧ gap_Gap.f n (m + 1) = some fr ∧ 0 ≤ mv ∧ gap_Line.f k n m to_ = some (-1) ∧ darninglaw8_awake.f k = some true ∧
  ∃ A B : Int → Int, (∀ l, 0 ≤ l → l < n → gap_Slot.f k n m l = some (A l) ∧ gap_Slot.f k n (m + 1) l = some (B l) ∧ 0 ≤ A l ∧ A l ≤ n ∧ A l ≠ to_ ∧ gap_Line.f k n m (A l) = some l ∧ (l = mv → A l = fr ∧ B l = to_) ∧ (l ≠ mv → A l = B l)) ∧
    (∀ l l', 0 ≤ l → l < l' → l' < n → A l' ≠ A l)
/-- THE ONE PURE STATEMENT of darninglaw8_GapMoves. -/
def darninglaw8_GapMoves.Pure : Prop := ∀ (a0 : Int) (a1 : Int), (Lit.int .i64 a0).wf = true → (Lit.int .i64 a1).wf = true → ∃ k fr to_ mv, GapFacts k (1 + (a0 % 18446744073709551616) % 60) ((a1 % 18446744073709551616) % 100000) fr to_ mv
theorem law3 : Keyed Try.prog 3 := int_keyed Try.underlying3
theorem zero3 (w : World) : (zeroValue 3).run Try.prog w = .ok (.int .i64 0) w := by kernel_rfl
/-- The map behind k rounds. -/
def Seen {H : Type} (A : Int → Int) : Nat → DataW H
  | 0 => .map []
  | k + 1 => (Seen A k).put (.int .i64 (A k)) (.lit (.int .i64 1))
theorem seen_none {H : Type} (A : Int → Int) (x : Int) : ∀ (k : Nat), (∀ j : Nat, j < k → x ≠ A j) → (Seen (H := H) A k).atKey (.int .i64 x) (.lit (.int .i64 0)) = .lit (.int .i64 0)
  | 0, _ => by simp [Seen, DataW.atKey]
  | k + 1, h => by
    rw [Seen, atKey_put_other (by simpa using h k (by omega))]
    exact seen_none A x k (fun j hj => h j (by omega))
set_option maxHeartbeats 8000000 in
set_option maxRecDepth 100000 in
theorem gap_moves (k : Nat) (a0 a1 n1 m fr to_ mv : Int) (hn1 : wrap64 (Int.tmod (IntKind.u64.wrap a0) 60) = n1) (hm1 : wrap64 (Int.tmod (IntKind.u64.wrap a1) 100000) = m) (hn : 0 ≤ n1 ∧ n1 < 60) (hm : 0 ≤ m ∧ m < 100000) (G : GapFacts k (1 + n1) m fr to_ mv) (w : World) :
    Calls Try.prog 8 #[.int .i64 a0, .int .i64 a1] w fun e w' => e = .returned (.bool true) ∧ Below w.heap.size w w' := by
  have hmm := @run_makeMap Try.prog
  obtain ⟨g1, g2, g3, g4, g5, g6, g7, A, B, g8, g9⟩ := G
  replace g1 := Lib.hid g1; replace g2 := Lib.hid g2; replace g3 := Lib.hid g3; replace g4 := Lib.hid g4; replace g6 := Lib.hid g6; replace g7 := Lib.hid g7; replace g8 := Lib.hid g8; replace g9 := Lib.hid g9
  have e1 : IntKind.i64.wrap (Int.tmod (IntKind.u64.wrap a0) 60) = n1 := (i64_w _).trans hn1
  have e2 : IntKind.i64.wrap (Int.tmod (IntKind.u64.wrap a1) 100000) = m := (i64_w _).trans hm1
  obtain ⟨n, hnn⟩ : ∃ n : Nat, (n : Int) = 1 + n1 := ⟨(1 + n1).toNat, by omega⟩
  have hb1 : 0 ≤ n1 := hn.1
  have hb2 : n1 < 60 := hn.2
  have hb3 : 0 ≤ m := hm.1
  have hb4 : m < 100000 := hm.2
  have hd5 : decide (mv < 0) = false := decide_eq_false (by omega)
  clear hn hm
  have hn60 : n ≤ 60 := by omega
  replace hnn := Lib.hid hnn
  go_enter Try.func8, Try.ntmps8
  go_wp2_with (first
    | (go_at_call 22; (with_reducible refine (gap_Move.calls _ _ fr to_ _ g1.out).mono ?_); rintro e w' ⟨rfl, ⟨nd, rfl⟩⟩)
    | (go_at_call 28; (with_reducible refine (gap_Line.calls k _ _ _ mv _ g2.out).mono ?_); rintro e w' ⟨rfl, ⟨nd, rfl⟩⟩)
    | (go_at_call 24; (with_reducible refine (gap_Gap.calls _ _ to_ _ g3.out).mono ?_); rintro e w' ⟨rfl, ⟨nd, rfl⟩⟩)
    | (go_at_call 24; (with_reducible refine (gap_Gap.calls _ _ fr _ g4.out).mono ?_); rintro e w' ⟨rfl, ⟨nd, rfl⟩⟩))
  clear e1 e2 hn1 hm1
  go_loopw [50] (fun i wr => ∃ j : Nat, i = .int .i64 j ∧ j ≤ n ∧ Hid (wr.ownsMap Try.prog 3 (plainElem (H := Unit) Try.prog 3) w.heap.size j (Seen (H := Unit) A j)) ∧ Below w.heap.size w wr)
    (fun i _ => n - (intOf i).toNat)
  case atStart => exact ⟨0, rfl, by omega, Lib.hid (World.ownsMap_made _ _ _ _), (pw_below_drewN (Below.refl _ _) _).alloc (Nat.le_refl _) _⟩
  case round =>
    obtain ⟨j, rfl, hj, hown, hB⟩ := hrel
    by_cases hlt : j < n
    · have hlt2 : (j : Int) < 1 + n1 := by have := hnn.out; omega
      obtain ⟨s1, s2, s3, s4, s5, s6, s7, s8⟩ := g8.out (j : Int) (by omega) hlt2
      have hdist : ∀ q : Nat, q < j → A j ≠ A q := fun q hq => g9.out (q : Int) (j : Int) (by omega) (by omega) hlt2
      have hsn := Lib.hid (seen_none (H := Unit) A (A j) j hdist)
      have hSt : Hid (Seen (H := Unit) A (j + 1) = (Seen A j).put (.int .i64 (A j)) (.lit (.int .i64 1))) := Lib.hid rfl
      obtain ⟨a, ha⟩ : ∃ a, A j = a := ⟨_, rfl⟩
      obtain ⟨b, hb⟩ : ∃ b, B j = b := ⟨_, rfl⟩
      rw [ha] at s1 s3 s4 s5 s6 s7 s8 hsn hSt
      rw [hb] at s2 s7 s8
      replace s1 := Lib.hid s1; replace s2 := Lib.hid s2; replace s6 := Lib.hid s6
      clear hdist ha hb
      have s5b : (a == to_) = false := by simpa using s5
      have hda : decide (a < 0) = false := decide_eq_false (by omega)
      have hdb : decide (1 + n1 < a) = false := decide_eq_false (by omega)
      have hdc : ((j : Int) != (j : Int)) = false := by simp
      have hdd : (a != a) = false := by simp
      have hkey : keyOf Try.prog 3 (.int .i64 a) = some (.int .i64 a) := keyOf_int_mk Try.underlying3 (WalkArith.wf_i64 (by omega))
      clear s5
      by_cases hl : (j : Int) = mv
      · obtain ⟨rfl, rfl⟩ := s7 hl
        clear s7 s8
        have c1 : ((j : Int) == mv) = true := by simpa using hl
        have c2 : ((j : Int) != mv) = false := by simpa using hl
        clear hl
        have hdd3 : ∀ x : Int, (x != x) = false := by simp
        go_wp2_with (first
          | (go_at_call 26; (with_reducible refine (gap_Slot.calls k _ _ _ _ _ s1.out).mono ?_); rintro e w' ⟨rfl, ⟨nd, rfl⟩⟩)
          | (go_at_call 26; (with_reducible refine (gap_Slot.calls k _ _ _ _ _ s2.out).mono ?_); rintro e w' ⟨rfl, ⟨nd, rfl⟩⟩)
          | (at_lookup; refine gate_guard (by rfl) ?_; dsimp only; (refine wpList_lookup_own_int _ rfl _ _ 36 rfl 3 3 .i64 law3 Try.underlying36 Try.underlying3 (zero3 _) w.heap.size j _ rfl hown.out _ _ rfl hkey ?_); intro c hat hwc; obtain rfl : c = 0 := (by have := hsn.out.symm.trans hat; simpa using this.symm); clear hat hwc)
          | (go_at_call 28; (with_reducible refine (gap_Line.calls k _ _ _ _ _ s6.out).mono ?_); rintro e w' ⟨rfl, ⟨nd, rfl⟩⟩)
          | (at_mapUpdate; refine wpList_mapUpdate_own _ rfl _ _ _ 36 rfl 3 3 law3 Try.underlying36 _ w.heap.size j _ rfl hown.out (by unfold maxLen; omega) _ _ _ rfl rfl hkey _ [] (plainElem_int Try.underlying3 (by decide)) ?_; intro w1 hown1 hgrow1; replace hown1 := Lib.hid hown1; replace hgrow1 := Lib.hid hgrow1))
        exact ⟨⟨j + 1, by go_num, by omega, Lib.hid (hSt.out ▸ hown1.out), pw_below_grown (pw_below_drewN hB _) (some w.heap.size) hB.size hgrow1.out (fun q hq => by cases hq; exact Nat.le_refl _)⟩, by simp [intOf]; omega⟩
      · obtain rfl := s8 hl
        clear s7 s8
        have c1 : ((j : Int) == mv) = false := by simpa using hl
        have c2 : ((j : Int) != mv) = true := by simpa using hl
        clear hl
        go_wp2_with (first
          | (go_at_call 26; (with_reducible refine (gap_Slot.calls k _ _ _ _ _ s1.out).mono ?_); rintro e w' ⟨rfl, ⟨nd, rfl⟩⟩)
          | (go_at_call 26; (with_reducible refine (gap_Slot.calls k _ _ _ _ _ s2.out).mono ?_); rintro e w' ⟨rfl, ⟨nd, rfl⟩⟩)
          | (at_lookup; refine gate_guard (by rfl) ?_; dsimp only; (refine wpList_lookup_own_int _ rfl _ _ 36 rfl 3 3 .i64 law3 Try.underlying36 Try.underlying3 (zero3 _) w.heap.size j _ rfl hown.out _ _ rfl hkey ?_); intro c hat hwc; obtain rfl : c = 0 := (by have := hsn.out.symm.trans hat; simpa using this.symm); clear hat hwc)
          | (go_at_call 28; (with_reducible refine (gap_Line.calls k _ _ _ _ _ s6.out).mono ?_); rintro e w' ⟨rfl, ⟨nd, rfl⟩⟩)
          | (at_mapUpdate; refine wpList_mapUpdate_own _ rfl _ _ _ 36 rfl 3 3 law3 Try.underlying36 _ w.heap.size j _ rfl hown.out (by unfold maxLen; omega) _ _ _ rfl rfl hkey _ [] (plainElem_int Try.underlying3 (by decide)) ?_; intro w1 hown1 hgrow1; replace hown1 := Lib.hid hown1; replace hgrow1 := Lib.hid hgrow1))
        exact ⟨⟨j + 1, by go_num, by omega, Lib.hid (hSt.out ▸ hown1.out), pw_below_grown (pw_below_drewN hB _) (some w.heap.size) hB.size hgrow1.out (fun q hq => by cases hq; exact Nat.le_refl _)⟩, by simp [intOf]; omega⟩
    · obtain rfl : j = n := by omega
      have hnn2 : (j : Int) = 1 + n1 := hnn.out
      have hlt3 : decide ((j : Int) < 1 + n1) = false := decide_eq_false (by omega)
      have hge : ¬ ((j : Int) < 1 + n1) := by omega
      clear hnn2
      go_wp2_with (first
        | (go_at_call 28; (with_reducible refine (gap_Line.calls k _ _ _ _ _ g6.out).mono ?_); rintro e w' ⟨rfl, ⟨nd, rfl⟩⟩)
        | (go_at_call 30; (with_reducible refine (darninglaw8_awake.calls k _ _ g7.out).mono ?_); rintro e w' ⟨rfl, ⟨nd, rfl⟩⟩))
      go_ret
      exact ⟨rfl, by first | exact hB | exact pw_below_drewN hB _⟩
theorem mod_w (a m : Int) (h : 0 < m) (hm : m ≤ 1000000) : wrap64 (Int.tmod (IntKind.u64.wrap a) m) = (a % 18446744073709551616) % m := by
  have e : IntKind.u64.wrap a = a % 18446744073709551616 := by simp [IntKind.wrap, IntKind.bits, IntKind.signed]
  have h1 := Int.emod_nonneg (a % 18446744073709551616) (b := m) (by omega)
  have h2 := Int.emod_lt_of_pos (a % 18446744073709551616) h
  rw [e, Int.tmod_eq_emod_of_nonneg (by omega)]
  unfold wrap64
  omega
theorem darninglaw8_GapMoves.walk (P : darninglaw8_GapMoves.Pure) (a0 : Int) (a1 : Int) (w : World) (w0 : (Lit.int .i64 a0).wf = true) (w1 : (Lit.int .i64 a1).wf = true) :
    Calls Try.prog 8 #[.int .i64 a0, .int .i64 a1] w fun e w' => e = .returned (.bool true) ∧ Below w.heap.size w w' := by
  obtain ⟨k, fr, to_, mv, G⟩ := P a0 a1 w0 w1
  have h1 := Int.emod_nonneg (a0 % 18446744073709551616) (b := 60) (by omega)
  have h2 := Int.emod_lt_of_pos (a0 % 18446744073709551616) (show (0 : Int) < 60 by omega)
  have h3 := Int.emod_nonneg (a1 % 18446744073709551616) (b := 100000) (by omega)
  have h4 := Int.emod_lt_of_pos (a1 % 18446744073709551616) (show (0 : Int) < 100000 by omega)
  exact gap_moves k a0 a1 _ _ fr to_ mv (mod_w a0 60 (by omega) (by omega)) (mod_w a1 100000 (by omega) (by omega)) ⟨h1, h2⟩ ⟨h3, h4⟩ G w

end Go.Proofs.Ytjmlbkbjmeeplaa.XGapMoves
