-- Laid by this session's own printer (wip/xprint.py): each Go function that the law reaches as a plain Lean function, and that the call comes to it.
import Derived.Test.YtjmlbkbjmeeplabXFitNeedsx0
import Derived.Test.YtjmlbkbjmeeplabXFitNeedsx1
import Derived.Test.YtjmlbkbjmeeplabXFitNeedsx2
namespace Go.Proofs.Ytjmlbkbjmeeplab.XFitNeeds
open Go.RowKit Go.Proofs.YtjmlbkbjmeeplabW.PrintWords Go.Proofs.YtjmlbkbjmeeplabW.PrintLast Go.Proofs.YtjmlbkbjmeeplabW.PrintMore
attribute [local go_sem] max2_int min2_int max_two min_two max_three min_three max_four min_four   -- for this text's walks alone
set_option linter.unusedVariables false
set_option linter.unusedSimpArgs false

/-! ### fit_Need: function 25 -/
def fit_Need.f (a0 : Int) : Option (Int) := if a0 < 1 then (some 0) else (if a0 > 448 then (some 0) else (some (wrap64 ((wrap64 (Int.tdiv (wrap64 (a0 + 7)) 8)) + 1))))
set_option maxHeartbeats 8000000 in
set_option maxRecDepth 100000 in
theorem fit_Need.calls (a0 : Int) (r : Int) (w : World) (h : fit_Need.f a0 = some r) :
    Calls Try.prog 25 #[.int .i64 a0] w fun e w' => e = .returned (.int .i64 r) ∧ Drawn0 w w' := by
  have H : (if a0 < 1 then (some 0) else (if a0 > 448 then (some 0) else (some (wrap64 ((wrap64 (Int.tdiv (wrap64 (a0 + 7)) 8)) + 1))))) = some r := h
  clear h
  by_cases c2 : a0 < 1
  · rw [if_pos c2] at H
    have c2b0 : decide (a0 < 1) = true := decide_eq_true c2
    clear c2
    obtain rfl := Option.some.inj H
    go_enter Try.func25, Try.ntmps25
    go_wp2
    go_ret
    exact ⟨by first | rfl | (simp; done) | (simp [*]; done), by repeat (first | exact Drawn0.refl _ | apply Drawn0.step)⟩
  · rw [if_neg c2] at H
    have c2b0 : decide (a0 < 1) = false := decide_eq_false c2
    clear c2
    by_cases c3 : a0 > 448
    · rw [if_pos c3] at H
      have c3b0 : decide (448 < a0) = true := decide_eq_true c3
      clear c3
      obtain rfl := Option.some.inj H
      go_enter Try.func25, Try.ntmps25
      go_wp2
      go_ret
      exact ⟨by first | rfl | (simp; done) | (simp [*]; done), by repeat (first | exact Drawn0.refl _ | apply Drawn0.step)⟩
    · rw [if_neg c3] at H
      have c3b0 : decide (448 < a0) = false := decide_eq_false c3
      clear c3
      obtain rfl := Option.some.inj H
      go_enter Try.func25, Try.ntmps25
      go_wp2
      go_ret
      exact ⟨by first | rfl | (simp; done) | (simp [*]; done), by repeat (first | exact Drawn0.refl _ | apply Drawn0.step)⟩

/-! ### fit_Takes: function 26 -/
def fit_Takes.j0 : Nat → Int → Int → Bool → Option (Int)
  | 0, _, _, _ => none
  | k + 1, x0, x1, x5 => if x5 = true then (some 0) else (if (wrap64 (x0 - x1)) < 2 then (some x0) else (some x1))
def fit_Takes.f (k : Nat) (a0 : Int) (a1 : Int) : Option (Int) := if a1 < 2 then (fit_Takes.j0 k a0 a1 true) else (fit_Takes.j0 k a0 a1 (decide (a1 > a0)))
theorem fit_Takes.mono_l : ∀ k, (∀ y0 y1 y2, LeO (fit_Takes.j0 k y0 y1 y2) (fit_Takes.j0 (k + 1) y0 y1 y2))
  | 0 => fun _ _ _ r h => by simp [fit_Takes.j0] at h
  | k + 1 => by
    have ih0 := fit_Takes.mono_l k
    · intro y0 y1 y2
      unfold fit_Takes.j0
      repeat' first
      | (with_reducible exact ih0 _ _ _)
      | (with_reducible exact LeO.refl _)
      | (with_reducible exact LeO.none _)
      | (with_reducible refine LeO.ite ?_ ?_)
      | (with_reducible refine LeO.bind ?_ (fun _ => ?_))
      | exact ih0 _ _ _
      | exact LeO.none _
      | refine LeO.ite ?_ ?_
      | refine LeO.bind ?_ (fun _ => ?_)
theorem fit_Takes.mono : ∀ a0 a1 k, LeO (fit_Takes.f k a0 a1) (fit_Takes.f (k + 1) a0 a1) := by
  intro a0 a1 k
  have ih0 := fit_Takes.mono_l k
  unfold fit_Takes.f
  repeat' first
      | (with_reducible exact ih0 _ _ _)
      | (with_reducible exact LeO.refl _)
      | (with_reducible exact LeO.none _)
      | (with_reducible refine LeO.ite ?_ ?_)
      | (with_reducible refine LeO.bind ?_ (fun _ => ?_))
      | exact ih0 _ _ _
      | exact LeO.none _
      | refine LeO.ite ?_ ?_
      | refine LeO.bind ?_ (fun _ => ?_)
set_option maxHeartbeats 8000000 in
set_option maxRecDepth 100000 in
theorem fit_Takes.calls (k : Nat) (a0 : Int) (a1 : Int) (r : Int) (w : World) (h : fit_Takes.f k a0 a1 = some r) :
    Calls Try.prog 26 #[.int .i64 a0, .int .i64 a1] w fun e w' => e = .returned (.int .i64 r) ∧ Drawn0 w w' := by
  have H : (if a1 < 2 then (fit_Takes.j0 k a0 a1 true) else (fit_Takes.j0 k a0 a1 (decide (a1 > a0)))) = some r := h
  clear h
  have HC3 := Aside0.mk H
  clear H
  go_enter Try.func26, Try.ntmps26
  go_upto_region 1 with (fail)
  go_cut [5] (fun v5 wc => ∃ (kq : Nat) (x5_2 : Bool), v5 = .bool x5_2 ∧ Aside0 (fit_Takes.j0 kq a0 a1 x5_2 = some r) ∧ Aside0 (kq ≤ k) ∧ Drawn0 w wc)
  case first =>
    have H := HC3.out
    clear HC3
    by_cases c4 : a1 < 2
    · rw [if_pos c4] at H
      have c4b0 : decide (a1 < 2) = true := decide_eq_true c4
      clear c4
      (first | rw [c4b0] | (simp only [i64_w, i32_w]; rw [c4b0]) | skip)
      have H' := Aside0.mk H
      clear H
      go_wp2
      go_meet
      case rel => exact ⟨_, (true), (by first | rfl | (simp; done) | (simp [*]; done)), H', ⟨by first | omega | exact Nat.le_refl _⟩, by repeat (first | exact Drawn0.refl _ | apply Drawn0.step)⟩
    · rw [if_neg c4] at H
      have c4b0 : decide (a1 < 2) = false := decide_eq_false c4
      clear c4
      (first | rw [c4b0] | (simp only [i64_w, i32_w]; rw [c4b0]) | skip)
      have H' := Aside0.mk H
      clear H
      go_wp2
      go_meet
      case rel => exact ⟨_, (decide (a1 > a0)), (by first | rfl | (simp; done) | (simp [*]; done)), H', ⟨by first | omega | exact Nat.le_refl _⟩, by repeat (first | exact Drawn0.refl _ | apply Drawn0.step)⟩
  case rest =>
    clear HC3
    try clear c2
    try clear p2
    try clear c4
    try clear c4b0
    obtain ⟨kq, x5_2, rfl, HA, HJ2, ⟨mc2, rfl⟩⟩ := hcut
    cases kq with
    | zero => exact absurd HA.out (by simp [fit_Takes.j0])
    | succ kj2 =>
      have H := HA.out
      clear HA
      simp only [fit_Takes.j0] at H
      by_cases c5 : x5_2 = true
      · subst c5
        have H1 : (some 0) = some r := by rw [if_pos rfl] at H; exact H
        clear H
        have H := H1
        clear H1
        obtain rfl := Option.some.inj H
        go_wp2
        go_ret
        exact ⟨by first | rfl | (simp; done) | (simp [*]; done), by repeat (first | exact Drawn0.refl _ | apply Drawn0.step)⟩
      · replace c5 := Bool.eq_false_iff.mpr c5
        subst c5
        have H1 : (if (wrap64 (a0 - a1)) < 2 then (some a0) else (some a1)) = some r := by rw [if_neg (show ¬ (false = true) by decide)] at H; exact H
        clear H
        have H := H1
        clear H1
        by_cases c6 : (wrap64 (a0 - a1)) < 2
        · rw [if_pos c6] at H
          have c6b0 : decide ((wrap64 (a0 - a1)) < 2) = true := decide_eq_true c6
          clear c6
          obtain rfl := Option.some.inj H
          go_wp2
          go_ret
          exact ⟨by first | rfl | (simp; done) | (simp [*]; done), by repeat (first | exact Drawn0.refl _ | apply Drawn0.step)⟩
        · rw [if_neg c6] at H
          have c6b0 : decide ((wrap64 (a0 - a1)) < 2) = false := decide_eq_false c6
          clear c6
          obtain rfl := Option.some.inj H
          go_wp2
          go_ret
          exact ⟨by first | rfl | (simp; done) | (simp [*]; done), by repeat (first | exact Drawn0.refl _ | apply Drawn0.step)⟩

/-! ### darninglaw15_awake: function 21 -/
def darninglaw15_awake.f (k : Nat)  : Option (Bool) := (some (([(⟨0, 5, false⟩ : S35), (⟨5, 7, true⟩ : S35), (⟨12, 4, false⟩ : S35)] : List (S35)) : List (S35))).bind fun y128 => ((fit_Fits.f k y128 3).bind fun t131 => ((fit_Need.f 9).bind fun t134 => (if t134 = 3 then (if (t131.length : Int) = 1 then (if 0 < (t131.length : Int) then (if (rd t131 0) = 2 then ((fit_Choose.f k y128 3 ([] : List Int)).bind fun t136 => (if t136 = 2 then ((fit_Takes.f k 4 3).bind fun t137 => (if t137 = 4 then ((fit_Takes.f k 5 3).bind fun t138 => (some (t138 == 3))) else (some false))) else (some false))) else (some false)) else (none)) else (some false)) else (some false))))
theorem darninglaw15_awake.mono : ∀ k, LeO (darninglaw15_awake.f k ) (darninglaw15_awake.f (k + 1) ) := by
  intro  k
  unfold darninglaw15_awake.f
  repeat' first
      | (with_reducible exact fit_Choose.mono _ _ _ _)
      | (with_reducible exact fit_Fits.mono _ _ _)
      | (with_reducible exact fit_Takes.mono _ _ _)
      | (with_reducible exact LeO.refl _)
      | (with_reducible exact LeO.none _)
      | (with_reducible refine LeO.ite ?_ ?_)
      | (with_reducible refine LeO.bind ?_ (fun _ => ?_))
      | exact fit_Choose.mono _ _ _ _
      | exact fit_Fits.mono _ _ _
      | exact fit_Takes.mono _ _ _
      | exact LeO.none _
      | refine LeO.ite ?_ ?_
      | refine LeO.bind ?_ (fun _ => ?_)
set_option maxHeartbeats 8000000 in
set_option maxRecDepth 100000 in
theorem darninglaw15_awake.calls (k : Nat)  (r : Bool) (w : World) (h : darninglaw15_awake.f k  = some r) :
    Calls Try.prog 21 #[] w fun e w' => e = .returned (.bool r) ∧ Below w.heap.size w w' := by
  have hu35 := Try.underlying35
  have HB := Aside0.mk (Below.refl w.heap.size w)
  have H : ((some (([(⟨0, 5, false⟩ : S35), (⟨5, 7, true⟩ : S35), (⟨12, 4, false⟩ : S35)] : List (S35)) : List (S35))).bind fun y128 => ((fit_Fits.f k y128 3).bind fun t131 => ((fit_Need.f 9).bind fun t134 => (if t134 = 3 then (if (t131.length : Int) = 1 then (if 0 < (t131.length : Int) then (if (rd t131 0) = 2 then ((fit_Choose.f k y128 3 ([] : List Int)).bind fun t136 => (if t136 = 2 then ((fit_Takes.f k 4 3).bind fun t137 => (if t137 = 4 then ((fit_Takes.f k 5 3).bind fun t138 => (some (t138 == 3))) else (some false))) else (some false))) else (some false)) else (none)) else (some false)) else (some false))))) = some r := h
  clear h
  obtain ⟨y128, hy128⟩ : ∃ y_ : List (S35), y_ = (([(⟨0, 5, false⟩ : S35), (⟨5, 7, true⟩ : S35), (⟨12, 4, false⟩ : S35)] : List (S35))) := ⟨_, rfl⟩
  replace H : ((fit_Fits.f k y128 3).bind fun t131 => ((fit_Need.f 9).bind fun t134 => (if t134 = 3 then (if (t131.length : Int) = 1 then (if 0 < (t131.length : Int) then (if (rd t131 0) = 2 then ((fit_Choose.f k y128 3 ([] : List Int)).bind fun t136 => (if t136 = 2 then ((fit_Takes.f k 4 3).bind fun t137 => (if t137 = 4 then ((fit_Takes.f k 5 3).bind fun t138 => (some (t138 == 3))) else (some false))) else (some false))) else (some false)) else (none)) else (some false)) else (some false)))) = some r := by first | (rw [hy128]; with_reducible exact H) | (have H2_ := (Option.bind_some _ _).symm.trans H; rw [hy128]; with_reducible exact H2_) | (have H2_ := (Option.bind_some _ _).symm.trans H; with_reducible exact H2_) | with_reducible exact H | (rw [hy128]; exact H) | exact H
  have Ny128 := Aside0.mk hy128
  clear hy128
  replace H := Option.bind_eq_some_iff.mp H
  obtain ⟨t131, A10, H⟩ := H
  replace H : ((fit_Need.f 9).bind fun t134 => (if t134 = 3 then (if (t131.length : Int) = 1 then (if 0 < (t131.length : Int) then (if (rd t131 0) = 2 then ((fit_Choose.f k y128 3 ([] : List Int)).bind fun t136 => (if t136 = 2 then ((fit_Takes.f k 4 3).bind fun t137 => (if t137 = 4 then ((fit_Takes.f k 5 3).bind fun t138 => (some (t138 == 3))) else (some false))) else (some false))) else (some false)) else (none)) else (some false)) else (some false))) = some r := H
  have A1 := Aside0.mk A10
  clear A10
  replace H := Option.bind_eq_some_iff.mp H
  obtain ⟨t134, A20, H⟩ := H
  replace H : (if t134 = 3 then (if (t131.length : Int) = 1 then (if 0 < (t131.length : Int) then (if (rd t131 0) = 2 then ((fit_Choose.f k y128 3 ([] : List Int)).bind fun t136 => (if t136 = 2 then ((fit_Takes.f k 4 3).bind fun t137 => (if t137 = 4 then ((fit_Takes.f k 5 3).bind fun t138 => (some (t138 == 3))) else (some false))) else (some false))) else (some false)) else (none)) else (some false)) else (some false)) = some r := H
  have A2 := Aside0.mk A20
  clear A20
  by_cases c3 : t134 = 3
  · rw [if_pos c3] at H
    have c3b0 : (t134 == 3) = true := beq_iff_eq.mpr c3
    have c3b1 : (t134 != 3) = false := bne_eq_false_iff_eq.mpr c3
    clear c3
    by_cases c4 : (t131.length : Int) = 1
    · rw [if_pos c4] at H
      have c4b0 : ((t131.length : Int) == 1) = true := beq_iff_eq.mpr c4
      have c4b1 : ((t131.length : Int) != 1) = false := bne_eq_false_iff_eq.mpr c4
      clear c4
      by_cases c5 : 0 < (t131.length : Int)
      · rw [if_pos c5] at H
        have c5b0 : decide (0 < (t131.length : Int)) = true := decide_eq_true c5
        have c5b1 : decide (0 < t131.length) = true := decide_eq_true (by omega)
        clear c5
        by_cases c6 : (rd t131 0) = 2
        · rw [if_pos c6] at H
          have c6b0 : ((rd t131 0) == 2) = true := beq_iff_eq.mpr c6
          have c6b1 : ((rd t131 0) != 2) = false := bne_eq_false_iff_eq.mpr c6
          clear c6
          replace H := Option.bind_eq_some_iff.mp H
          obtain ⟨t136, A70, H⟩ := H
          replace H : (if t136 = 2 then ((fit_Takes.f k 4 3).bind fun t137 => (if t137 = 4 then ((fit_Takes.f k 5 3).bind fun t138 => (some (t138 == 3))) else (some false))) else (some false)) = some r := H
          have A7 := Aside0.mk A70
          clear A70
          by_cases c8 : t136 = 2
          · rw [if_pos c8] at H
            have c8b0 : (t136 == 2) = true := beq_iff_eq.mpr c8
            have c8b1 : (t136 != 2) = false := bne_eq_false_iff_eq.mpr c8
            clear c8
            replace H := Option.bind_eq_some_iff.mp H
            obtain ⟨t137, A90, H⟩ := H
            replace H : (if t137 = 4 then ((fit_Takes.f k 5 3).bind fun t138 => (some (t138 == 3))) else (some false)) = some r := H
            have A9 := Aside0.mk A90
            clear A90
            by_cases c10 : t137 = 4
            · rw [if_pos c10] at H
              have c10b0 : (t137 == 4) = true := beq_iff_eq.mpr c10
              have c10b1 : (t137 != 4) = false := bne_eq_false_iff_eq.mpr c10
              clear c10
              replace H := Option.bind_eq_some_iff.mp H
              obtain ⟨t138, A110, H⟩ := H
              replace H : (some (t138 == 3)) = some r := H
              have A11 := Aside0.mk A110
              clear A110
              obtain rfl := Option.some.inj H
              go_enter Try.func21, Try.ntmps21
              go_wp2_with (first | ((with_reducible refine gate_dst (N := 6) rfl ?_); (try (refine gate_guard (by rfl) ?_; dsimp only)); refine Kd.R_lit k35 _ 35 ?hg (N := 6) ?hd (xs := ([(⟨0, 5, false⟩ : S35), (⟨5, 7, true⟩ : S35), (⟨12, 4, false⟩ : S35)] : List (S35))) (inner := [.int .i64 0, .int .i64 5, .bool false, .int .i64 5, .int .i64 7, .bool true, .int .i64 12, .int .i64 4, .bool false]) (ok := fun _ => True) (okp := fun _ => True) ?hr ?hp (fun _ hk => hk) trivial (Below.refl _ _) (Nat.le_refl _) (by simp) ?_; (case hd => rfl); (case hg => rfl); (case hr => first | (go_simp; done) | (go_simp; rfl)); (case hp => exact (Reps.c3 (show Kd.M k35 _ _ _ (⟨0, 5, false⟩ : S35) [.int .i64 0, .int .i64 5, .bool false] from (k35_mkM _ _ _ (⟨0, 5, false⟩ : S35) )) (Reps.c3 (show Kd.M k35 _ _ _ (⟨5, 7, true⟩ : S35) [.int .i64 5, .int .i64 7, .bool true] from (k35_mkM _ _ _ (⟨5, 7, true⟩ : S35) )) (Reps.c3 (show Kd.M k35 _ _ _ (⟨12, 4, false⟩ : S35) [.int .i64 12, .int .i64 4, .bool false] from (k35_mkM _ _ _ (⟨12, 4, false⟩ : S35) )) (Reps.none _ _))))); intro v129 w12 ho13 hb hg_ hnew_; clear hg_ hnew_; (first | rw [← Ny128.out] at ho13 | (simp only [Int.reduceToNat] at ho13; rw [← Ny128.out] at ho13)); have n0_ := Aside0.mk (Kd.R_lower ho13 (below_size (by repeat (first | (with_reducible first | exact HB.out | apply below_alloc | apply pw_below_drewN | apply below_drew1) | exact HB.out)))); have n1_ := Aside0.mk (below_step (by repeat (first | (with_reducible first | exact HB.out | apply below_alloc | apply pw_below_drewN | apply below_drew1) | exact HB.out)) hb); clear HB; have HO130 := n0_; have HB := n1_; clear n0_ n1_; clear hb ho13; obtain ⟨Ao14, co14, eo14⟩ := Kd.R_slice HO130.out; subst eo14) | ((with_reducible refine gate_callee (f := 23) rfl ?_); refine goesL_ (some 8) rfl rfl Try.func23 (by kernel_rfl) rfl #[.slice Ao14 y128.length co14, .int .i64 3] rfl (by (try simp only [List.map_toArray, List.map_cons, List.map_nil]); first | done | rfl | (simp only [List.length_drop, List.length_take]; rfl)) ?_; (with_reducible refine (fit_Fits.calls k _ _ y128 3 t131 _ ?side1 ?side2 A1.out).mono ?_); (case side1 => repeat (first | exact (Kd.R_reads' HO130.out).2.2 | (with_reducible refine Kd.C_alloc ?_ _) | (with_reducible refine Kd.C_drewN ?_ _) | (with_reducible refine Kd.C_drew ?_))); (case side2 => exact (Kd.R_reads' HO130.out).2.1); rintro e w15 ⟨v132, rfl, ho0, hb⟩; refine ⟨_, rfl, ?_⟩; have n0_ := Aside0.mk (Kd.R_below (by (with_reducible repeat (first | apply Kd.R_alloc | apply Kd.R_drewN | apply Kd.R_drew)); exact HO130.out) hb); have n1_ := Aside0.mk (Kd.R_lower ho0 (below_size (by repeat (first | (with_reducible first | exact HB.out | apply below_alloc | apply pw_below_drewN | apply below_drew1) | exact HB.out)))); have n2_ := Aside0.mk (below_step (by repeat (first | (with_reducible first | exact HB.out | apply below_alloc | apply pw_below_drewN | apply below_drew1) | exact HB.out)) hb); clear HO130; clear HB; have HO130 := n0_; have HO133 := n1_; have HB := n2_; clear n0_ n1_ n2_; (try clear hb); (try clear hb2); (try clear hk); (try clear hi); (try clear ho0)) | ((with_reducible refine gate_callee (f := 25) rfl ?_); refine goesL_ (some 9) rfl rfl Try.func25 (by kernel_rfl) rfl #[.int .i64 9] rfl (by (try simp only [List.map_toArray, List.map_cons, List.map_nil]); first | done | rfl | (simp only [List.length_drop, List.length_take]; rfl)) ?_; (with_reducible refine (fit_Need.calls 9 t134 _ A2.out).mono ?_); rintro e w' ⟨rfl, ⟨nd, rfl⟩⟩; refine ⟨_, rfl, ?_⟩; obtain ⟨Ao16, co16, eo16⟩ := Kd.R_slice HO133.out; subst eo16; have p135 : 0 ≤ (0 : Int) := (by omega); have q135 : 0 < (t131.length : Int) := of_decide_eq_true (by first | (with_reducible assumption) | assumption); obtain ⟨ad135, e135, hx135_0⟩ := Kd.at_int (Kd.R_reads' HO133.out).2.2 0 p135 q135; cases e135; have qi135 : (0 < t131.length) = True := eq_true (by omega); (try rw [show ((0 : Int)).toNat = 0 from rfl] at hx135_0); (try rw [Addr.add_zero'] at hx135_0); replace p135 := eq_true p135; replace q135 := eq_true q135) | (go_at_call 22; (refine (fit_Choose.calls k _ _ y128 3 _ _ ([] : List Int) t136 _ ?side1 ?side2 ?side3 ?side4 A7.out).mono ?_); (case side1 => repeat (first | exact (Kd.R_reads' HO130.out).2.2 | (with_reducible refine Kd.C_alloc ?_ _) | (with_reducible refine Kd.C_drewN ?_ _) | (with_reducible refine Kd.C_drew ?_))); (case side2 => exact (Kd.R_reads' HO130.out).2.1); (case side3 => exact Kd.C_nil _ _); (case side4 => exact Nat.le_refl _); rintro e w17 ⟨rfl, hb⟩; have n0_ := Aside0.mk (Kd.R_below (by (with_reducible repeat (first | apply Kd.R_alloc | apply Kd.R_drewN | apply Kd.R_drew)); exact HO130.out) hb); have n1_ := Aside0.mk (Kd.R_below (by (with_reducible repeat (first | apply Kd.R_alloc | apply Kd.R_drewN | apply Kd.R_drew)); exact HO133.out) hb); have n2_ := Aside0.mk (below_step (by repeat (first | (with_reducible first | exact HB.out | apply below_alloc | apply pw_below_drewN | apply below_drew1) | exact HB.out)) hb); clear HO130; clear HO133; clear HB; have HO130 := n0_; have HO133 := n1_; have HB := n2_; clear n0_ n1_ n2_; (try clear hb); (try clear hb2); (try clear hk); (try clear hi)) | (go_at_call 26; (with_reducible refine (fit_Takes.calls k 4 3 t137 _ A9.out).mono ?_); rintro e w' ⟨rfl, ⟨nd, rfl⟩⟩) | (go_at_call 26; (with_reducible refine (fit_Takes.calls k 5 3 t138 _ A11.out).mono ?_); rintro e w' ⟨rfl, ⟨nd, rfl⟩⟩))
              go_ret
              exact ⟨by first | rfl | (simp [errW_none, errW_some] <;> rfl) | (simp [*, errW_none, errW_some] <;> rfl), by repeat (first | (with_reducible first | exact HB.out | apply below_alloc | apply pw_below_drewN | apply below_drew1) | exact HB.out)⟩
            · rw [if_neg c10] at H
              have c10b0 : (t137 == 4) = false := beq_eq_false_iff_ne.mpr c10
              have c10b1 : (t137 != 4) = true := bne_iff_ne.mpr c10
              obtain rfl := Option.some.inj H
              go_enter Try.func21, Try.ntmps21
              go_wp2_with (first | ((with_reducible refine gate_dst (N := 6) rfl ?_); (try (refine gate_guard (by rfl) ?_; dsimp only)); refine Kd.R_lit k35 _ 35 ?hg (N := 6) ?hd (xs := ([(⟨0, 5, false⟩ : S35), (⟨5, 7, true⟩ : S35), (⟨12, 4, false⟩ : S35)] : List (S35))) (inner := [.int .i64 0, .int .i64 5, .bool false, .int .i64 5, .int .i64 7, .bool true, .int .i64 12, .int .i64 4, .bool false]) (ok := fun _ => True) (okp := fun _ => True) ?hr ?hp (fun _ hk => hk) trivial (Below.refl _ _) (Nat.le_refl _) (by simp) ?_; (case hd => rfl); (case hg => rfl); (case hr => first | (go_simp; done) | (go_simp; rfl)); (case hp => exact (Reps.c3 (show Kd.M k35 _ _ _ (⟨0, 5, false⟩ : S35) [.int .i64 0, .int .i64 5, .bool false] from (k35_mkM _ _ _ (⟨0, 5, false⟩ : S35) )) (Reps.c3 (show Kd.M k35 _ _ _ (⟨5, 7, true⟩ : S35) [.int .i64 5, .int .i64 7, .bool true] from (k35_mkM _ _ _ (⟨5, 7, true⟩ : S35) )) (Reps.c3 (show Kd.M k35 _ _ _ (⟨12, 4, false⟩ : S35) [.int .i64 12, .int .i64 4, .bool false] from (k35_mkM _ _ _ (⟨12, 4, false⟩ : S35) )) (Reps.none _ _))))); intro v129 w18 ho19 hb hg_ hnew_; clear hg_ hnew_; (first | rw [← Ny128.out] at ho19 | (simp only [Int.reduceToNat] at ho19; rw [← Ny128.out] at ho19)); have n0_ := Aside0.mk (Kd.R_lower ho19 (below_size (by repeat (first | (with_reducible first | exact HB.out | apply below_alloc | apply pw_below_drewN | apply below_drew1) | exact HB.out)))); have n1_ := Aside0.mk (below_step (by repeat (first | (with_reducible first | exact HB.out | apply below_alloc | apply pw_below_drewN | apply below_drew1) | exact HB.out)) hb); clear HB; have HO130 := n0_; have HB := n1_; clear n0_ n1_; clear hb ho19; obtain ⟨Ao20, co20, eo20⟩ := Kd.R_slice HO130.out; subst eo20) | ((with_reducible refine gate_callee (f := 23) rfl ?_); refine goesL_ (some 8) rfl rfl Try.func23 (by kernel_rfl) rfl #[.slice Ao20 y128.length co20, .int .i64 3] rfl (by (try simp only [List.map_toArray, List.map_cons, List.map_nil]); first | done | rfl | (simp only [List.length_drop, List.length_take]; rfl)) ?_; (with_reducible refine (fit_Fits.calls k _ _ y128 3 t131 _ ?side1 ?side2 A1.out).mono ?_); (case side1 => repeat (first | exact (Kd.R_reads' HO130.out).2.2 | (with_reducible refine Kd.C_alloc ?_ _) | (with_reducible refine Kd.C_drewN ?_ _) | (with_reducible refine Kd.C_drew ?_))); (case side2 => exact (Kd.R_reads' HO130.out).2.1); rintro e w21 ⟨v132, rfl, ho0, hb⟩; refine ⟨_, rfl, ?_⟩; have n0_ := Aside0.mk (Kd.R_below (by (with_reducible repeat (first | apply Kd.R_alloc | apply Kd.R_drewN | apply Kd.R_drew)); exact HO130.out) hb); have n1_ := Aside0.mk (Kd.R_lower ho0 (below_size (by repeat (first | (with_reducible first | exact HB.out | apply below_alloc | apply pw_below_drewN | apply below_drew1) | exact HB.out)))); have n2_ := Aside0.mk (below_step (by repeat (first | (with_reducible first | exact HB.out | apply below_alloc | apply pw_below_drewN | apply below_drew1) | exact HB.out)) hb); clear HO130; clear HB; have HO130 := n0_; have HO133 := n1_; have HB := n2_; clear n0_ n1_ n2_; (try clear hb); (try clear hb2); (try clear hk); (try clear hi); (try clear ho0)) | ((with_reducible refine gate_callee (f := 25) rfl ?_); refine goesL_ (some 9) rfl rfl Try.func25 (by kernel_rfl) rfl #[.int .i64 9] rfl (by (try simp only [List.map_toArray, List.map_cons, List.map_nil]); first | done | rfl | (simp only [List.length_drop, List.length_take]; rfl)) ?_; (with_reducible refine (fit_Need.calls 9 t134 _ A2.out).mono ?_); rintro e w' ⟨rfl, ⟨nd, rfl⟩⟩; refine ⟨_, rfl, ?_⟩; obtain ⟨Ao22, co22, eo22⟩ := Kd.R_slice HO133.out; subst eo22; have p135 : 0 ≤ (0 : Int) := (by omega); have q135 : 0 < (t131.length : Int) := of_decide_eq_true (by first | (with_reducible assumption) | assumption); obtain ⟨ad135, e135, hx135_0⟩ := Kd.at_int (Kd.R_reads' HO133.out).2.2 0 p135 q135; cases e135; have qi135 : (0 < t131.length) = True := eq_true (by omega); (try rw [show ((0 : Int)).toNat = 0 from rfl] at hx135_0); (try rw [Addr.add_zero'] at hx135_0); replace p135 := eq_true p135; replace q135 := eq_true q135) | (go_at_call 22; (refine (fit_Choose.calls k _ _ y128 3 _ _ ([] : List Int) t136 _ ?side1 ?side2 ?side3 ?side4 A7.out).mono ?_); (case side1 => repeat (first | exact (Kd.R_reads' HO130.out).2.2 | (with_reducible refine Kd.C_alloc ?_ _) | (with_reducible refine Kd.C_drewN ?_ _) | (with_reducible refine Kd.C_drew ?_))); (case side2 => exact (Kd.R_reads' HO130.out).2.1); (case side3 => exact Kd.C_nil _ _); (case side4 => exact Nat.le_refl _); rintro e w23 ⟨rfl, hb⟩; have n0_ := Aside0.mk (Kd.R_below (by (with_reducible repeat (first | apply Kd.R_alloc | apply Kd.R_drewN | apply Kd.R_drew)); exact HO130.out) hb); have n1_ := Aside0.mk (Kd.R_below (by (with_reducible repeat (first | apply Kd.R_alloc | apply Kd.R_drewN | apply Kd.R_drew)); exact HO133.out) hb); have n2_ := Aside0.mk (below_step (by repeat (first | (with_reducible first | exact HB.out | apply below_alloc | apply pw_below_drewN | apply below_drew1) | exact HB.out)) hb); clear HO130; clear HO133; clear HB; have HO130 := n0_; have HO133 := n1_; have HB := n2_; clear n0_ n1_ n2_; (try clear hb); (try clear hb2); (try clear hk); (try clear hi)) | (go_at_call 26; (with_reducible refine (fit_Takes.calls k 4 3 t137 _ A9.out).mono ?_); rintro e w' ⟨rfl, ⟨nd, rfl⟩⟩))
              go_ret
              exact ⟨by first | rfl | (simp [errW_none, errW_some] <;> rfl) | (simp [*, errW_none, errW_some] <;> rfl), by repeat (first | (with_reducible first | exact HB.out | apply below_alloc | apply pw_below_drewN | apply below_drew1) | exact HB.out)⟩
          · rw [if_neg c8] at H
            have c8b0 : (t136 == 2) = false := beq_eq_false_iff_ne.mpr c8
            have c8b1 : (t136 != 2) = true := bne_iff_ne.mpr c8
            obtain rfl := Option.some.inj H
            go_enter Try.func21, Try.ntmps21
            go_wp2_with (first | ((with_reducible refine gate_dst (N := 6) rfl ?_); (try (refine gate_guard (by rfl) ?_; dsimp only)); refine Kd.R_lit k35 _ 35 ?hg (N := 6) ?hd (xs := ([(⟨0, 5, false⟩ : S35), (⟨5, 7, true⟩ : S35), (⟨12, 4, false⟩ : S35)] : List (S35))) (inner := [.int .i64 0, .int .i64 5, .bool false, .int .i64 5, .int .i64 7, .bool true, .int .i64 12, .int .i64 4, .bool false]) (ok := fun _ => True) (okp := fun _ => True) ?hr ?hp (fun _ hk => hk) trivial (Below.refl _ _) (Nat.le_refl _) (by simp) ?_; (case hd => rfl); (case hg => rfl); (case hr => first | (go_simp; done) | (go_simp; rfl)); (case hp => exact (Reps.c3 (show Kd.M k35 _ _ _ (⟨0, 5, false⟩ : S35) [.int .i64 0, .int .i64 5, .bool false] from (k35_mkM _ _ _ (⟨0, 5, false⟩ : S35) )) (Reps.c3 (show Kd.M k35 _ _ _ (⟨5, 7, true⟩ : S35) [.int .i64 5, .int .i64 7, .bool true] from (k35_mkM _ _ _ (⟨5, 7, true⟩ : S35) )) (Reps.c3 (show Kd.M k35 _ _ _ (⟨12, 4, false⟩ : S35) [.int .i64 12, .int .i64 4, .bool false] from (k35_mkM _ _ _ (⟨12, 4, false⟩ : S35) )) (Reps.none _ _))))); intro v129 w24 ho25 hb hg_ hnew_; clear hg_ hnew_; (first | rw [← Ny128.out] at ho25 | (simp only [Int.reduceToNat] at ho25; rw [← Ny128.out] at ho25)); have n0_ := Aside0.mk (Kd.R_lower ho25 (below_size (by repeat (first | (with_reducible first | exact HB.out | apply below_alloc | apply pw_below_drewN | apply below_drew1) | exact HB.out)))); have n1_ := Aside0.mk (below_step (by repeat (first | (with_reducible first | exact HB.out | apply below_alloc | apply pw_below_drewN | apply below_drew1) | exact HB.out)) hb); clear HB; have HO130 := n0_; have HB := n1_; clear n0_ n1_; clear hb ho25; obtain ⟨Ao26, co26, eo26⟩ := Kd.R_slice HO130.out; subst eo26) | ((with_reducible refine gate_callee (f := 23) rfl ?_); refine goesL_ (some 8) rfl rfl Try.func23 (by kernel_rfl) rfl #[.slice Ao26 y128.length co26, .int .i64 3] rfl (by (try simp only [List.map_toArray, List.map_cons, List.map_nil]); first | done | rfl | (simp only [List.length_drop, List.length_take]; rfl)) ?_; (with_reducible refine (fit_Fits.calls k _ _ y128 3 t131 _ ?side1 ?side2 A1.out).mono ?_); (case side1 => repeat (first | exact (Kd.R_reads' HO130.out).2.2 | (with_reducible refine Kd.C_alloc ?_ _) | (with_reducible refine Kd.C_drewN ?_ _) | (with_reducible refine Kd.C_drew ?_))); (case side2 => exact (Kd.R_reads' HO130.out).2.1); rintro e w27 ⟨v132, rfl, ho0, hb⟩; refine ⟨_, rfl, ?_⟩; have n0_ := Aside0.mk (Kd.R_below (by (with_reducible repeat (first | apply Kd.R_alloc | apply Kd.R_drewN | apply Kd.R_drew)); exact HO130.out) hb); have n1_ := Aside0.mk (Kd.R_lower ho0 (below_size (by repeat (first | (with_reducible first | exact HB.out | apply below_alloc | apply pw_below_drewN | apply below_drew1) | exact HB.out)))); have n2_ := Aside0.mk (below_step (by repeat (first | (with_reducible first | exact HB.out | apply below_alloc | apply pw_below_drewN | apply below_drew1) | exact HB.out)) hb); clear HO130; clear HB; have HO130 := n0_; have HO133 := n1_; have HB := n2_; clear n0_ n1_ n2_; (try clear hb); (try clear hb2); (try clear hk); (try clear hi); (try clear ho0)) | ((with_reducible refine gate_callee (f := 25) rfl ?_); refine goesL_ (some 9) rfl rfl Try.func25 (by kernel_rfl) rfl #[.int .i64 9] rfl (by (try simp only [List.map_toArray, List.map_cons, List.map_nil]); first | done | rfl | (simp only [List.length_drop, List.length_take]; rfl)) ?_; (with_reducible refine (fit_Need.calls 9 t134 _ A2.out).mono ?_); rintro e w' ⟨rfl, ⟨nd, rfl⟩⟩; refine ⟨_, rfl, ?_⟩; obtain ⟨Ao28, co28, eo28⟩ := Kd.R_slice HO133.out; subst eo28; have p135 : 0 ≤ (0 : Int) := (by omega); have q135 : 0 < (t131.length : Int) := of_decide_eq_true (by first | (with_reducible assumption) | assumption); obtain ⟨ad135, e135, hx135_0⟩ := Kd.at_int (Kd.R_reads' HO133.out).2.2 0 p135 q135; cases e135; have qi135 : (0 < t131.length) = True := eq_true (by omega); (try rw [show ((0 : Int)).toNat = 0 from rfl] at hx135_0); (try rw [Addr.add_zero'] at hx135_0); replace p135 := eq_true p135; replace q135 := eq_true q135) | (go_at_call 22; (refine (fit_Choose.calls k _ _ y128 3 _ _ ([] : List Int) t136 _ ?side1 ?side2 ?side3 ?side4 A7.out).mono ?_); (case side1 => repeat (first | exact (Kd.R_reads' HO130.out).2.2 | (with_reducible refine Kd.C_alloc ?_ _) | (with_reducible refine Kd.C_drewN ?_ _) | (with_reducible refine Kd.C_drew ?_))); (case side2 => exact (Kd.R_reads' HO130.out).2.1); (case side3 => exact Kd.C_nil _ _); (case side4 => exact Nat.le_refl _); rintro e w29 ⟨rfl, hb⟩; have n0_ := Aside0.mk (Kd.R_below (by (with_reducible repeat (first | apply Kd.R_alloc | apply Kd.R_drewN | apply Kd.R_drew)); exact HO130.out) hb); have n1_ := Aside0.mk (Kd.R_below (by (with_reducible repeat (first | apply Kd.R_alloc | apply Kd.R_drewN | apply Kd.R_drew)); exact HO133.out) hb); have n2_ := Aside0.mk (below_step (by repeat (first | (with_reducible first | exact HB.out | apply below_alloc | apply pw_below_drewN | apply below_drew1) | exact HB.out)) hb); clear HO130; clear HO133; clear HB; have HO130 := n0_; have HO133 := n1_; have HB := n2_; clear n0_ n1_ n2_; (try clear hb); (try clear hb2); (try clear hk); (try clear hi)))
            go_ret
            exact ⟨by first | rfl | (simp [errW_none, errW_some] <;> rfl) | (simp [*, errW_none, errW_some] <;> rfl), by repeat (first | (with_reducible first | exact HB.out | apply below_alloc | apply pw_below_drewN | apply below_drew1) | exact HB.out)⟩
        · rw [if_neg c6] at H
          have c6b0 : ((rd t131 0) == 2) = false := beq_eq_false_iff_ne.mpr c6
          have c6b1 : ((rd t131 0) != 2) = true := bne_iff_ne.mpr c6
          obtain rfl := Option.some.inj H
          go_enter Try.func21, Try.ntmps21
          go_wp2_with (first | ((with_reducible refine gate_dst (N := 6) rfl ?_); (try (refine gate_guard (by rfl) ?_; dsimp only)); refine Kd.R_lit k35 _ 35 ?hg (N := 6) ?hd (xs := ([(⟨0, 5, false⟩ : S35), (⟨5, 7, true⟩ : S35), (⟨12, 4, false⟩ : S35)] : List (S35))) (inner := [.int .i64 0, .int .i64 5, .bool false, .int .i64 5, .int .i64 7, .bool true, .int .i64 12, .int .i64 4, .bool false]) (ok := fun _ => True) (okp := fun _ => True) ?hr ?hp (fun _ hk => hk) trivial (Below.refl _ _) (Nat.le_refl _) (by simp) ?_; (case hd => rfl); (case hg => rfl); (case hr => first | (go_simp; done) | (go_simp; rfl)); (case hp => exact (Reps.c3 (show Kd.M k35 _ _ _ (⟨0, 5, false⟩ : S35) [.int .i64 0, .int .i64 5, .bool false] from (k35_mkM _ _ _ (⟨0, 5, false⟩ : S35) )) (Reps.c3 (show Kd.M k35 _ _ _ (⟨5, 7, true⟩ : S35) [.int .i64 5, .int .i64 7, .bool true] from (k35_mkM _ _ _ (⟨5, 7, true⟩ : S35) )) (Reps.c3 (show Kd.M k35 _ _ _ (⟨12, 4, false⟩ : S35) [.int .i64 12, .int .i64 4, .bool false] from (k35_mkM _ _ _ (⟨12, 4, false⟩ : S35) )) (Reps.none _ _))))); intro v129 w30 ho31 hb hg_ hnew_; clear hg_ hnew_; (first | rw [← Ny128.out] at ho31 | (simp only [Int.reduceToNat] at ho31; rw [← Ny128.out] at ho31)); have n0_ := Aside0.mk (Kd.R_lower ho31 (below_size (by repeat (first | (with_reducible first | exact HB.out | apply below_alloc | apply pw_below_drewN | apply below_drew1) | exact HB.out)))); have n1_ := Aside0.mk (below_step (by repeat (first | (with_reducible first | exact HB.out | apply below_alloc | apply pw_below_drewN | apply below_drew1) | exact HB.out)) hb); clear HB; have HO130 := n0_; have HB := n1_; clear n0_ n1_; clear hb ho31; obtain ⟨Ao32, co32, eo32⟩ := Kd.R_slice HO130.out; subst eo32) | ((with_reducible refine gate_callee (f := 23) rfl ?_); refine goesL_ (some 8) rfl rfl Try.func23 (by kernel_rfl) rfl #[.slice Ao32 y128.length co32, .int .i64 3] rfl (by (try simp only [List.map_toArray, List.map_cons, List.map_nil]); first | done | rfl | (simp only [List.length_drop, List.length_take]; rfl)) ?_; (with_reducible refine (fit_Fits.calls k _ _ y128 3 t131 _ ?side1 ?side2 A1.out).mono ?_); (case side1 => repeat (first | exact (Kd.R_reads' HO130.out).2.2 | (with_reducible refine Kd.C_alloc ?_ _) | (with_reducible refine Kd.C_drewN ?_ _) | (with_reducible refine Kd.C_drew ?_))); (case side2 => exact (Kd.R_reads' HO130.out).2.1); rintro e w33 ⟨v132, rfl, ho0, hb⟩; refine ⟨_, rfl, ?_⟩; have n0_ := Aside0.mk (Kd.R_below (by (with_reducible repeat (first | apply Kd.R_alloc | apply Kd.R_drewN | apply Kd.R_drew)); exact HO130.out) hb); have n1_ := Aside0.mk (Kd.R_lower ho0 (below_size (by repeat (first | (with_reducible first | exact HB.out | apply below_alloc | apply pw_below_drewN | apply below_drew1) | exact HB.out)))); have n2_ := Aside0.mk (below_step (by repeat (first | (with_reducible first | exact HB.out | apply below_alloc | apply pw_below_drewN | apply below_drew1) | exact HB.out)) hb); clear HO130; clear HB; have HO130 := n0_; have HO133 := n1_; have HB := n2_; clear n0_ n1_ n2_; (try clear hb); (try clear hb2); (try clear hk); (try clear hi); (try clear ho0)) | ((with_reducible refine gate_callee (f := 25) rfl ?_); refine goesL_ (some 9) rfl rfl Try.func25 (by kernel_rfl) rfl #[.int .i64 9] rfl (by (try simp only [List.map_toArray, List.map_cons, List.map_nil]); first | done | rfl | (simp only [List.length_drop, List.length_take]; rfl)) ?_; (with_reducible refine (fit_Need.calls 9 t134 _ A2.out).mono ?_); rintro e w' ⟨rfl, ⟨nd, rfl⟩⟩; refine ⟨_, rfl, ?_⟩; obtain ⟨Ao34, co34, eo34⟩ := Kd.R_slice HO133.out; subst eo34; have p135 : 0 ≤ (0 : Int) := (by omega); have q135 : 0 < (t131.length : Int) := of_decide_eq_true (by first | (with_reducible assumption) | assumption); obtain ⟨ad135, e135, hx135_0⟩ := Kd.at_int (Kd.R_reads' HO133.out).2.2 0 p135 q135; cases e135; have qi135 : (0 < t131.length) = True := eq_true (by omega); (try rw [show ((0 : Int)).toNat = 0 from rfl] at hx135_0); (try rw [Addr.add_zero'] at hx135_0); replace p135 := eq_true p135; replace q135 := eq_true q135))
          go_ret
          exact ⟨by first | rfl | (simp [errW_none, errW_some] <;> rfl) | (simp [*, errW_none, errW_some] <;> rfl), by repeat (first | (with_reducible first | exact HB.out | apply below_alloc | apply pw_below_drewN | apply below_drew1) | exact HB.out)⟩
      · rw [if_neg c5] at H
        exact absurd H (by simp)
    · rw [if_neg c4] at H
      have c4b0 : ((t131.length : Int) == 1) = false := beq_eq_false_iff_ne.mpr c4
      have c4b1 : ((t131.length : Int) != 1) = true := bne_iff_ne.mpr c4
      obtain rfl := Option.some.inj H
      go_enter Try.func21, Try.ntmps21
      go_wp2_with (first | ((with_reducible refine gate_dst (N := 6) rfl ?_); (try (refine gate_guard (by rfl) ?_; dsimp only)); refine Kd.R_lit k35 _ 35 ?hg (N := 6) ?hd (xs := ([(⟨0, 5, false⟩ : S35), (⟨5, 7, true⟩ : S35), (⟨12, 4, false⟩ : S35)] : List (S35))) (inner := [.int .i64 0, .int .i64 5, .bool false, .int .i64 5, .int .i64 7, .bool true, .int .i64 12, .int .i64 4, .bool false]) (ok := fun _ => True) (okp := fun _ => True) ?hr ?hp (fun _ hk => hk) trivial (Below.refl _ _) (Nat.le_refl _) (by simp) ?_; (case hd => rfl); (case hg => rfl); (case hr => first | (go_simp; done) | (go_simp; rfl)); (case hp => exact (Reps.c3 (show Kd.M k35 _ _ _ (⟨0, 5, false⟩ : S35) [.int .i64 0, .int .i64 5, .bool false] from (k35_mkM _ _ _ (⟨0, 5, false⟩ : S35) )) (Reps.c3 (show Kd.M k35 _ _ _ (⟨5, 7, true⟩ : S35) [.int .i64 5, .int .i64 7, .bool true] from (k35_mkM _ _ _ (⟨5, 7, true⟩ : S35) )) (Reps.c3 (show Kd.M k35 _ _ _ (⟨12, 4, false⟩ : S35) [.int .i64 12, .int .i64 4, .bool false] from (k35_mkM _ _ _ (⟨12, 4, false⟩ : S35) )) (Reps.none _ _))))); intro v129 w35 ho36 hb hg_ hnew_; clear hg_ hnew_; (first | rw [← Ny128.out] at ho36 | (simp only [Int.reduceToNat] at ho36; rw [← Ny128.out] at ho36)); have n0_ := Aside0.mk (Kd.R_lower ho36 (below_size (by repeat (first | (with_reducible first | exact HB.out | apply below_alloc | apply pw_below_drewN | apply below_drew1) | exact HB.out)))); have n1_ := Aside0.mk (below_step (by repeat (first | (with_reducible first | exact HB.out | apply below_alloc | apply pw_below_drewN | apply below_drew1) | exact HB.out)) hb); clear HB; have HO130 := n0_; have HB := n1_; clear n0_ n1_; clear hb ho36; obtain ⟨Ao37, co37, eo37⟩ := Kd.R_slice HO130.out; subst eo37) | ((with_reducible refine gate_callee (f := 23) rfl ?_); refine goesL_ (some 8) rfl rfl Try.func23 (by kernel_rfl) rfl #[.slice Ao37 y128.length co37, .int .i64 3] rfl (by (try simp only [List.map_toArray, List.map_cons, List.map_nil]); first | done | rfl | (simp only [List.length_drop, List.length_take]; rfl)) ?_; (with_reducible refine (fit_Fits.calls k _ _ y128 3 t131 _ ?side1 ?side2 A1.out).mono ?_); (case side1 => repeat (first | exact (Kd.R_reads' HO130.out).2.2 | (with_reducible refine Kd.C_alloc ?_ _) | (with_reducible refine Kd.C_drewN ?_ _) | (with_reducible refine Kd.C_drew ?_))); (case side2 => exact (Kd.R_reads' HO130.out).2.1); rintro e w38 ⟨v132, rfl, ho0, hb⟩; refine ⟨_, rfl, ?_⟩; have n0_ := Aside0.mk (Kd.R_below (by (with_reducible repeat (first | apply Kd.R_alloc | apply Kd.R_drewN | apply Kd.R_drew)); exact HO130.out) hb); have n1_ := Aside0.mk (Kd.R_lower ho0 (below_size (by repeat (first | (with_reducible first | exact HB.out | apply below_alloc | apply pw_below_drewN | apply below_drew1) | exact HB.out)))); have n2_ := Aside0.mk (below_step (by repeat (first | (with_reducible first | exact HB.out | apply below_alloc | apply pw_below_drewN | apply below_drew1) | exact HB.out)) hb); clear HO130; clear HB; have HO130 := n0_; have HO133 := n1_; have HB := n2_; clear n0_ n1_ n2_; (try clear hb); (try clear hb2); (try clear hk); (try clear hi); (try clear ho0)) | ((with_reducible refine gate_callee (f := 25) rfl ?_); refine goesL_ (some 9) rfl rfl Try.func25 (by kernel_rfl) rfl #[.int .i64 9] rfl (by (try simp only [List.map_toArray, List.map_cons, List.map_nil]); first | done | rfl | (simp only [List.length_drop, List.length_take]; rfl)) ?_; (with_reducible refine (fit_Need.calls 9 t134 _ A2.out).mono ?_); rintro e w' ⟨rfl, ⟨nd, rfl⟩⟩; refine ⟨_, rfl, ?_⟩; obtain ⟨Ao39, co39, eo39⟩ := Kd.R_slice HO133.out; subst eo39))
      go_ret
      exact ⟨by first | rfl | (simp [errW_none, errW_some] <;> rfl) | (simp [*, errW_none, errW_some] <;> rfl), by repeat (first | (with_reducible first | exact HB.out | apply below_alloc | apply pw_below_drewN | apply below_drew1) | exact HB.out)⟩
  · rw [if_neg c3] at H
    have c3b0 : (t134 == 3) = false := beq_eq_false_iff_ne.mpr c3
    have c3b1 : (t134 != 3) = true := bne_iff_ne.mpr c3
    obtain rfl := Option.some.inj H
    go_enter Try.func21, Try.ntmps21
    go_wp2_with (first | ((with_reducible refine gate_dst (N := 6) rfl ?_); (try (refine gate_guard (by rfl) ?_; dsimp only)); refine Kd.R_lit k35 _ 35 ?hg (N := 6) ?hd (xs := ([(⟨0, 5, false⟩ : S35), (⟨5, 7, true⟩ : S35), (⟨12, 4, false⟩ : S35)] : List (S35))) (inner := [.int .i64 0, .int .i64 5, .bool false, .int .i64 5, .int .i64 7, .bool true, .int .i64 12, .int .i64 4, .bool false]) (ok := fun _ => True) (okp := fun _ => True) ?hr ?hp (fun _ hk => hk) trivial (Below.refl _ _) (Nat.le_refl _) (by simp) ?_; (case hd => rfl); (case hg => rfl); (case hr => first | (go_simp; done) | (go_simp; rfl)); (case hp => exact (Reps.c3 (show Kd.M k35 _ _ _ (⟨0, 5, false⟩ : S35) [.int .i64 0, .int .i64 5, .bool false] from (k35_mkM _ _ _ (⟨0, 5, false⟩ : S35) )) (Reps.c3 (show Kd.M k35 _ _ _ (⟨5, 7, true⟩ : S35) [.int .i64 5, .int .i64 7, .bool true] from (k35_mkM _ _ _ (⟨5, 7, true⟩ : S35) )) (Reps.c3 (show Kd.M k35 _ _ _ (⟨12, 4, false⟩ : S35) [.int .i64 12, .int .i64 4, .bool false] from (k35_mkM _ _ _ (⟨12, 4, false⟩ : S35) )) (Reps.none _ _))))); intro v129 w40 ho41 hb hg_ hnew_; clear hg_ hnew_; (first | rw [← Ny128.out] at ho41 | (simp only [Int.reduceToNat] at ho41; rw [← Ny128.out] at ho41)); have n0_ := Aside0.mk (Kd.R_lower ho41 (below_size (by repeat (first | (with_reducible first | exact HB.out | apply below_alloc | apply pw_below_drewN | apply below_drew1) | exact HB.out)))); have n1_ := Aside0.mk (below_step (by repeat (first | (with_reducible first | exact HB.out | apply below_alloc | apply pw_below_drewN | apply below_drew1) | exact HB.out)) hb); clear HB; have HO130 := n0_; have HB := n1_; clear n0_ n1_; clear hb ho41; obtain ⟨Ao42, co42, eo42⟩ := Kd.R_slice HO130.out; subst eo42) | ((with_reducible refine gate_callee (f := 23) rfl ?_); refine goesL_ (some 8) rfl rfl Try.func23 (by kernel_rfl) rfl #[.slice Ao42 y128.length co42, .int .i64 3] rfl (by (try simp only [List.map_toArray, List.map_cons, List.map_nil]); first | done | rfl | (simp only [List.length_drop, List.length_take]; rfl)) ?_; (with_reducible refine (fit_Fits.calls k _ _ y128 3 t131 _ ?side1 ?side2 A1.out).mono ?_); (case side1 => repeat (first | exact (Kd.R_reads' HO130.out).2.2 | (with_reducible refine Kd.C_alloc ?_ _) | (with_reducible refine Kd.C_drewN ?_ _) | (with_reducible refine Kd.C_drew ?_))); (case side2 => exact (Kd.R_reads' HO130.out).2.1); rintro e w43 ⟨v132, rfl, ho0, hb⟩; refine ⟨_, rfl, ?_⟩; have n0_ := Aside0.mk (Kd.R_below (by (with_reducible repeat (first | apply Kd.R_alloc | apply Kd.R_drewN | apply Kd.R_drew)); exact HO130.out) hb); have n1_ := Aside0.mk (Kd.R_lower ho0 (below_size (by repeat (first | (with_reducible first | exact HB.out | apply below_alloc | apply pw_below_drewN | apply below_drew1) | exact HB.out)))); have n2_ := Aside0.mk (below_step (by repeat (first | (with_reducible first | exact HB.out | apply below_alloc | apply pw_below_drewN | apply below_drew1) | exact HB.out)) hb); clear HO130; clear HB; have HO130 := n0_; have HO133 := n1_; have HB := n2_; clear n0_ n1_ n2_; (try clear hb); (try clear hb2); (try clear hk); (try clear hi); (try clear ho0)) | ((with_reducible refine gate_callee (f := 25) rfl ?_); refine goesL_ (some 9) rfl rfl Try.func25 (by kernel_rfl) rfl #[.int .i64 9] rfl (by (try simp only [List.map_toArray, List.map_cons, List.map_nil]); first | done | rfl | (simp only [List.length_drop, List.length_take]; rfl)) ?_; (with_reducible refine (fit_Need.calls 9 t134 _ A2.out).mono ?_); rintro e w' ⟨rfl, ⟨nd, rfl⟩⟩; refine ⟨_, rfl, ?_⟩))
    go_ret
    exact ⟨by first | rfl | (simp [errW_none, errW_some] <;> rfl) | (simp [*, errW_none, errW_some] <;> rfl), by repeat (first | (with_reducible first | exact HB.out | apply below_alloc | apply pw_below_drewN | apply below_drew1) | exact HB.out)⟩

/-! ### darninglaw15_FitNeeds: function 6 -/
def darninglaw15_FitNeeds.j0 : Nat → Int → Int → Bool → Option (Bool)
  | 0, _, _, _ => none
  | k + 1, x1, x5, x45 => if x45 = true then (some false) else ((fit_Takes.f k x1 x5).bind fun t141 => (if x1 < x5 then (if t141 = 0 then ((darninglaw15_awake.f k).bind fun t142 => (some t142)) else (some false)) else (if t141 ≥ x5 then (if t141 = x1 then (if t141 ≤ (wrap64 (x5 + 1)) then ((fit_Need.f 0).bind fun t143 => (if t143 = 0 then ((fit_Need.f 449).bind fun t144 => (if t144 = 0 then ((darninglaw15_awake.f k).bind fun t145 => (some t145)) else (some false))) else (some false))) else (some false)) else (if (wrap64 (x1 - t141)) ≥ 2 then (if t141 ≤ (wrap64 (x5 + 1)) then ((fit_Need.f 0).bind fun t146 => (if t146 = 0 then ((fit_Need.f 449).bind fun t147 => (if t147 = 0 then ((darninglaw15_awake.f k).bind fun t148 => (some t148)) else (some false))) else (some false))) else (some false)) else (some false))) else (some false))))
def darninglaw15_FitNeeds.f (k : Nat) (a0 : Int) (a1 : Int) : Option (Bool) := (fit_Need.f (wrap64 (1 + (wrap64 (Int.tmod (IntKind.u64.wrap (a0)) 448))))).bind fun t139 => (if t139 < 2 then (darninglaw15_FitNeeds.j0 k (wrap64 (2 + (wrap64 (Int.tmod (IntKind.u64.wrap (a1)) 511)))) t139 true) else (if (wrap64 ((wrap64 (t139 - 1)) * 8)) < (wrap64 (1 + (wrap64 (Int.tmod (IntKind.u64.wrap (a0)) 448)))) then (darninglaw15_FitNeeds.j0 k (wrap64 (2 + (wrap64 (Int.tmod (IntKind.u64.wrap (a1)) 511)))) t139 true) else (if (wrap64 ((wrap64 (t139 - 2)) * 8)) ≥ (wrap64 (1 + (wrap64 (Int.tmod (IntKind.u64.wrap (a0)) 448)))) then (darninglaw15_FitNeeds.j0 k (wrap64 (2 + (wrap64 (Int.tmod (IntKind.u64.wrap (a1)) 511)))) t139 true) else (if (wrap64 (1 + (wrap64 (Int.tmod (IntKind.u64.wrap (a0)) 448)))) < 448 then ((fit_Need.f (wrap64 ((wrap64 (1 + (wrap64 (Int.tmod (IntKind.u64.wrap (a0)) 448)))) + 1))).bind fun t140 => (darninglaw15_FitNeeds.j0 k (wrap64 (2 + (wrap64 (Int.tmod (IntKind.u64.wrap (a1)) 511)))) t139 (decide (t140 < t139)))) else (darninglaw15_FitNeeds.j0 k (wrap64 (2 + (wrap64 (Int.tmod (IntKind.u64.wrap (a1)) 511)))) t139 false)))))
theorem darninglaw15_FitNeeds.mono_l : ∀ k, (∀ y0 y1 y2, LeO (darninglaw15_FitNeeds.j0 k y0 y1 y2) (darninglaw15_FitNeeds.j0 (k + 1) y0 y1 y2))
  | 0 => fun _ _ _ r h => by simp [darninglaw15_FitNeeds.j0] at h
  | k + 1 => by
    have ih0 := darninglaw15_FitNeeds.mono_l k
    · intro y0 y1 y2
      unfold darninglaw15_FitNeeds.j0
      repeat' first
      | (with_reducible exact ih0 _ _ _)
      | (with_reducible exact darninglaw15_awake.mono _)
      | (with_reducible exact fit_Takes.mono _ _ _)
      | (with_reducible exact LeO.refl _)
      | (with_reducible exact LeO.none _)
      | (with_reducible refine LeO.ite ?_ ?_)
      | (with_reducible refine LeO.bind ?_ (fun _ => ?_))
      | exact ih0 _ _ _
      | exact darninglaw15_awake.mono _
      | exact fit_Takes.mono _ _ _
      | exact LeO.none _
      | refine LeO.ite ?_ ?_
      | refine LeO.bind ?_ (fun _ => ?_)
theorem darninglaw15_FitNeeds.mono : ∀ a0 a1 k, LeO (darninglaw15_FitNeeds.f k a0 a1) (darninglaw15_FitNeeds.f (k + 1) a0 a1) := by
  intro a0 a1 k
  have ih0 := darninglaw15_FitNeeds.mono_l k
  unfold darninglaw15_FitNeeds.f
  repeat' first
      | (with_reducible exact ih0 _ _ _)
      | (with_reducible exact darninglaw15_awake.mono _)
      | (with_reducible exact fit_Takes.mono _ _ _)
      | (with_reducible exact LeO.refl _)
      | (with_reducible exact LeO.none _)
      | (with_reducible refine LeO.ite ?_ ?_)
      | (with_reducible refine LeO.bind ?_ (fun _ => ?_))
      | exact ih0 _ _ _
      | exact darninglaw15_awake.mono _
      | exact fit_Takes.mono _ _ _
      | exact LeO.none _
      | refine LeO.ite ?_ ?_
      | refine LeO.bind ?_ (fun _ => ?_)
set_option maxHeartbeats 8000000 in
set_option maxRecDepth 100000 in
theorem darninglaw15_FitNeeds.calls (k : Nat) (a0 : Int) (a1 : Int) (r : Bool) (w : World) (h : darninglaw15_FitNeeds.f k a0 a1 = some r) :
    Calls Try.prog 6 #[.int .i64 a0, .int .i64 a1] w fun e w' => e = .returned (.bool r) ∧ Below w.heap.size w w' := by
  have HB := Aside0.mk (Below.refl w.heap.size w)
  have H : ((fit_Need.f (wrap64 (1 + (wrap64 (Int.tmod (IntKind.u64.wrap (a0)) 448))))).bind fun t139 => (if t139 < 2 then (darninglaw15_FitNeeds.j0 k (wrap64 (2 + (wrap64 (Int.tmod (IntKind.u64.wrap (a1)) 511)))) t139 true) else (if (wrap64 ((wrap64 (t139 - 1)) * 8)) < (wrap64 (1 + (wrap64 (Int.tmod (IntKind.u64.wrap (a0)) 448)))) then (darninglaw15_FitNeeds.j0 k (wrap64 (2 + (wrap64 (Int.tmod (IntKind.u64.wrap (a1)) 511)))) t139 true) else (if (wrap64 ((wrap64 (t139 - 2)) * 8)) ≥ (wrap64 (1 + (wrap64 (Int.tmod (IntKind.u64.wrap (a0)) 448)))) then (darninglaw15_FitNeeds.j0 k (wrap64 (2 + (wrap64 (Int.tmod (IntKind.u64.wrap (a1)) 511)))) t139 true) else (if (wrap64 (1 + (wrap64 (Int.tmod (IntKind.u64.wrap (a0)) 448)))) < 448 then ((fit_Need.f (wrap64 ((wrap64 (1 + (wrap64 (Int.tmod (IntKind.u64.wrap (a0)) 448)))) + 1))).bind fun t140 => (darninglaw15_FitNeeds.j0 k (wrap64 (2 + (wrap64 (Int.tmod (IntKind.u64.wrap (a1)) 511)))) t139 (decide (t140 < t139)))) else (darninglaw15_FitNeeds.j0 k (wrap64 (2 + (wrap64 (Int.tmod (IntKind.u64.wrap (a1)) 511)))) t139 false)))))) = some r := h
  clear h
  replace H := Option.bind_eq_some_iff.mp H
  obtain ⟨t139, A30, H⟩ := H
  replace H : (if t139 < 2 then (darninglaw15_FitNeeds.j0 k (wrap64 (2 + (wrap64 (Int.tmod (IntKind.u64.wrap (a1)) 511)))) t139 true) else (if (wrap64 ((wrap64 (t139 - 1)) * 8)) < (wrap64 (1 + (wrap64 (Int.tmod (IntKind.u64.wrap (a0)) 448)))) then (darninglaw15_FitNeeds.j0 k (wrap64 (2 + (wrap64 (Int.tmod (IntKind.u64.wrap (a1)) 511)))) t139 true) else (if (wrap64 ((wrap64 (t139 - 2)) * 8)) ≥ (wrap64 (1 + (wrap64 (Int.tmod (IntKind.u64.wrap (a0)) 448)))) then (darninglaw15_FitNeeds.j0 k (wrap64 (2 + (wrap64 (Int.tmod (IntKind.u64.wrap (a1)) 511)))) t139 true) else (if (wrap64 (1 + (wrap64 (Int.tmod (IntKind.u64.wrap (a0)) 448)))) < 448 then ((fit_Need.f (wrap64 ((wrap64 (1 + (wrap64 (Int.tmod (IntKind.u64.wrap (a0)) 448)))) + 1))).bind fun t140 => (darninglaw15_FitNeeds.j0 k (wrap64 (2 + (wrap64 (Int.tmod (IntKind.u64.wrap (a1)) 511)))) t139 (decide (t140 < t139)))) else (darninglaw15_FitNeeds.j0 k (wrap64 (2 + (wrap64 (Int.tmod (IntKind.u64.wrap (a1)) 511)))) t139 false))))) = some r := H
  have A3 := Aside0.mk A30
  clear A30
  have HC4 := Aside0.mk H
  clear H
  go_enter Try.func6, Try.ntmps6
  go_upto_region 3 with (first | ((with_reducible refine gate_callee (f := 25) rfl ?_); refine goesL_ (some 18) rfl rfl Try.func25 (by kernel_rfl) rfl #[.int .i64 (wrap64 (1 + (wrap64 (Int.tmod (IntKind.u64.wrap (a0)) 448))))] rfl (by (try simp only [List.map_toArray, List.map_cons, List.map_nil]); first | done | rfl | (simp only [List.length_drop, List.length_take]; rfl)) ?_; (with_reducible refine (fit_Need.calls (wrap64 (1 + (wrap64 (Int.tmod (IntKind.u64.wrap (a0)) 448)))) t139 _ A3.out).mono ?_); rintro e w' ⟨rfl, ⟨nd, rfl⟩⟩; refine ⟨_, rfl, ?_⟩))
  (try simp only [Act.put, List.setIfInBounds_toArray, List.set_cons_zero, List.set_cons_succ])
  go_cut [45] (fun v45 wc => ∃ (kq : Nat) (x45_3 : Bool), v45 = .bool x45_3 ∧ Aside0 (darninglaw15_FitNeeds.j0 kq (wrap64 (2 + (wrap64 (Int.tmod (IntKind.u64.wrap (a1)) 511)))) t139 x45_3 = some r) ∧ Aside0 (kq ≤ k) ∧ Aside0 (Below w.heap.size w wc))
  case first =>
    have H := HC4.out
    clear HC4
    by_cases c5 : t139 < 2
    · rw [if_pos c5] at H
      have c5b0 : decide (t139 < 2) = true := decide_eq_true c5
      clear c5
      (first | rw [c5b0] | (simp only [i64_w, i32_w]; rw [c5b0]) | skip)
      have H' := Aside0.mk H
      clear H
      go_wp2
      go_meet
      case rel => exact ⟨_, (true), (by first | rfl | (simp; done) | (simp [*]; done)), H', ⟨by first | omega | exact Nat.le_refl _⟩, ⟨by repeat (first | (with_reducible first | exact HB.out | apply below_alloc | apply pw_below_drewN | apply below_drew1) | exact HB.out)⟩⟩
    · rw [if_neg c5] at H
      have c5b0 : decide (t139 < 2) = false := decide_eq_false c5
      clear c5
      (first | rw [c5b0] | (simp only [i64_w, i32_w]; rw [c5b0]) | skip)
      by_cases c6 : (wrap64 ((wrap64 (t139 - 1)) * 8)) < (wrap64 (1 + (wrap64 (Int.tmod (IntKind.u64.wrap (a0)) 448))))
      · rw [if_pos c6] at H
        have c6b0 : decide ((wrap64 ((wrap64 (t139 - 1)) * 8)) < (wrap64 (1 + (wrap64 (Int.tmod (IntKind.u64.wrap (a0)) 448))))) = true := decide_eq_true c6
        clear c6
        have H' := Aside0.mk H
        clear H
        go_wp2
        go_meet
        case rel => exact ⟨_, (true), (by first | rfl | (simp; done) | (simp [*]; done)), H', ⟨by first | omega | exact Nat.le_refl _⟩, ⟨by repeat (first | (with_reducible first | exact HB.out | apply below_alloc | apply pw_below_drewN | apply below_drew1) | exact HB.out)⟩⟩
      · rw [if_neg c6] at H
        have c6b0 : decide ((wrap64 ((wrap64 (t139 - 1)) * 8)) < (wrap64 (1 + (wrap64 (Int.tmod (IntKind.u64.wrap (a0)) 448))))) = false := decide_eq_false c6
        clear c6
        by_cases c7 : (wrap64 ((wrap64 (t139 - 2)) * 8)) ≥ (wrap64 (1 + (wrap64 (Int.tmod (IntKind.u64.wrap (a0)) 448))))
        · rw [if_pos c7] at H
          have c7b0 : decide ((wrap64 (1 + (wrap64 (Int.tmod (IntKind.u64.wrap (a0)) 448)))) ≤ (wrap64 ((wrap64 (t139 - 2)) * 8))) = true := decide_eq_true c7
          clear c7
          have H' := Aside0.mk H
          clear H
          go_wp2
          go_meet
          case rel => exact ⟨_, (true), (by first | rfl | (simp; done) | (simp [*]; done)), H', ⟨by first | omega | exact Nat.le_refl _⟩, ⟨by repeat (first | (with_reducible first | exact HB.out | apply below_alloc | apply pw_below_drewN | apply below_drew1) | exact HB.out)⟩⟩
        · rw [if_neg c7] at H
          have c7b0 : decide ((wrap64 (1 + (wrap64 (Int.tmod (IntKind.u64.wrap (a0)) 448)))) ≤ (wrap64 ((wrap64 (t139 - 2)) * 8))) = false := decide_eq_false c7
          clear c7
          by_cases c8 : (wrap64 (1 + (wrap64 (Int.tmod (IntKind.u64.wrap (a0)) 448)))) < 448
          · rw [if_pos c8] at H
            have c8b0 : decide ((wrap64 (1 + (wrap64 (Int.tmod (IntKind.u64.wrap (a0)) 448)))) < 448) = true := decide_eq_true c8
            clear c8
            replace H := Option.bind_eq_some_iff.mp H
            obtain ⟨t140, A90, H⟩ := H
            replace H : (darninglaw15_FitNeeds.j0 k (wrap64 (2 + (wrap64 (Int.tmod (IntKind.u64.wrap (a1)) 511)))) t139 (decide (t140 < t139))) = some r := H
            have A9 := Aside0.mk A90
            clear A90
            have H' := Aside0.mk H
            clear H
            go_wp2_with (first | (go_at_call 25; (with_reducible refine (fit_Need.calls (wrap64 ((wrap64 (1 + (wrap64 (Int.tmod (IntKind.u64.wrap (a0)) 448)))) + 1)) t140 _ A9.out).mono ?_); rintro e w' ⟨rfl, ⟨nd, rfl⟩⟩))
            go_meet
            case rel => exact ⟨_, (decide (t140 < t139)), (by first | rfl | (simp; done) | (simp [*]; done)), H', ⟨by first | omega | exact Nat.le_refl _⟩, ⟨by repeat (first | (with_reducible first | exact HB.out | apply below_alloc | apply pw_below_drewN | apply below_drew1) | exact HB.out)⟩⟩
          · rw [if_neg c8] at H
            have c8b0 : decide ((wrap64 (1 + (wrap64 (Int.tmod (IntKind.u64.wrap (a0)) 448)))) < 448) = false := decide_eq_false c8
            clear c8
            have H' := Aside0.mk H
            clear H
            go_wp2
            go_meet
            case rel => exact ⟨_, (false), (by first | rfl | (simp; done) | (simp [*]; done)), H', ⟨by first | omega | exact Nat.le_refl _⟩, ⟨by repeat (first | (with_reducible first | exact HB.out | apply below_alloc | apply pw_below_drewN | apply below_drew1) | exact HB.out)⟩⟩
  case rest =>
    clear HC4
    try clear c2
    try clear p2
    try clear c5
    try clear c5b0
    try clear c6
    try clear c6b0
    try clear p6
    try clear c7
    try clear c7b0
    try clear c8
    try clear c8b0
    obtain ⟨kq, x45_3, rfl, HA, HJ3, HB⟩ := hcut
    cases kq with
    | zero => exact absurd HA.out (by simp [darninglaw15_FitNeeds.j0])
    | succ kj3 =>
      have H := HA.out
      clear HA
      simp only [darninglaw15_FitNeeds.j0] at H
      by_cases c10 : x45_3 = true
      · subst c10
        have H1 : (some false) = some r := by rw [if_pos rfl] at H; exact H
        clear H
        have H := H1
        clear H1
        obtain rfl := Option.some.inj H
        go_wp2
        go_ret
        exact ⟨by first | rfl | (simp [errW_none, errW_some] <;> rfl) | (simp [*, errW_none, errW_some] <;> rfl), by repeat (first | (with_reducible first | exact HB.out | apply below_alloc | apply pw_below_drewN | apply below_drew1) | exact HB.out)⟩
      · replace c10 := Bool.eq_false_iff.mpr c10
        subst c10
        have H1 : ((fit_Takes.f kj3 (wrap64 (2 + (wrap64 (Int.tmod (IntKind.u64.wrap (a1)) 511)))) t139).bind fun t141 => (if (wrap64 (2 + (wrap64 (Int.tmod (IntKind.u64.wrap (a1)) 511)))) < t139 then (if t141 = 0 then ((darninglaw15_awake.f kj3).bind fun t142 => (some t142)) else (some false)) else (if t141 ≥ t139 then (if t141 = (wrap64 (2 + (wrap64 (Int.tmod (IntKind.u64.wrap (a1)) 511)))) then (if t141 ≤ (wrap64 (t139 + 1)) then ((fit_Need.f 0).bind fun t143 => (if t143 = 0 then ((fit_Need.f 449).bind fun t144 => (if t144 = 0 then ((darninglaw15_awake.f kj3).bind fun t145 => (some t145)) else (some false))) else (some false))) else (some false)) else (if (wrap64 ((wrap64 (2 + (wrap64 (Int.tmod (IntKind.u64.wrap (a1)) 511)))) - t141)) ≥ 2 then (if t141 ≤ (wrap64 (t139 + 1)) then ((fit_Need.f 0).bind fun t146 => (if t146 = 0 then ((fit_Need.f 449).bind fun t147 => (if t147 = 0 then ((darninglaw15_awake.f kj3).bind fun t148 => (some t148)) else (some false))) else (some false))) else (some false)) else (some false))) else (some false)))) = some r := by rw [if_neg (show ¬ (false = true) by decide)] at H; exact H
        clear H
        have H := H1
        clear H1
        replace H := Option.bind_eq_some_iff.mp H
        obtain ⟨t141, A110, H⟩ := H
        replace H : (if (wrap64 (2 + (wrap64 (Int.tmod (IntKind.u64.wrap (a1)) 511)))) < t139 then (if t141 = 0 then ((darninglaw15_awake.f kj3).bind fun t142 => (some t142)) else (some false)) else (if t141 ≥ t139 then (if t141 = (wrap64 (2 + (wrap64 (Int.tmod (IntKind.u64.wrap (a1)) 511)))) then (if t141 ≤ (wrap64 (t139 + 1)) then ((fit_Need.f 0).bind fun t143 => (if t143 = 0 then ((fit_Need.f 449).bind fun t144 => (if t144 = 0 then ((darninglaw15_awake.f kj3).bind fun t145 => (some t145)) else (some false))) else (some false))) else (some false)) else (if (wrap64 ((wrap64 (2 + (wrap64 (Int.tmod (IntKind.u64.wrap (a1)) 511)))) - t141)) ≥ 2 then (if t141 ≤ (wrap64 (t139 + 1)) then ((fit_Need.f 0).bind fun t146 => (if t146 = 0 then ((fit_Need.f 449).bind fun t147 => (if t147 = 0 then ((darninglaw15_awake.f kj3).bind fun t148 => (some t148)) else (some false))) else (some false))) else (some false)) else (some false))) else (some false))) = some r := H
        have A11 := Aside0.mk A110
        clear A110
        by_cases c12 : (wrap64 (2 + (wrap64 (Int.tmod (IntKind.u64.wrap (a1)) 511)))) < t139
        · rw [if_pos c12] at H
          have c12b0 : decide ((wrap64 (2 + (wrap64 (Int.tmod (IntKind.u64.wrap (a1)) 511)))) < t139) = true := decide_eq_true c12
          clear c12
          by_cases c13 : t141 = 0
          · rw [if_pos c13] at H
            have c13b0 : (t141 == 0) = true := beq_iff_eq.mpr c13
            have c13b1 : (t141 != 0) = false := bne_eq_false_iff_eq.mpr c13
            clear c13
            replace H := Option.bind_eq_some_iff.mp H
            obtain ⟨t142, A140, H⟩ := H
            replace H : (some t142) = some r := H
            have A14 := Aside0.mk A140
            clear A140
            obtain rfl := Option.some.inj H
            go_wp2_with (first | ((with_reducible refine gate_callee (f := 26) rfl ?_); refine goesL_ (some 48) rfl rfl Try.func26 (by kernel_rfl) rfl #[.int .i64 (wrap64 (2 + (wrap64 (Int.tmod (IntKind.u64.wrap (a1)) 511)))), .int .i64 t139] rfl (by (try simp only [List.map_toArray, List.map_cons, List.map_nil]); first | done | rfl | (simp only [List.length_drop, List.length_take]; rfl)) ?_; (with_reducible refine (fit_Takes.calls kj3 (wrap64 (2 + (wrap64 (Int.tmod (IntKind.u64.wrap (a1)) 511)))) t139 t141 _ A11.out).mono ?_); rintro e w' ⟨rfl, ⟨nd, rfl⟩⟩; refine ⟨_, rfl, ?_⟩) | (go_at_call 21; (with_reducible refine (darninglaw15_awake.calls kj3  t142 _ A14.out).mono ?_); rintro e w15 ⟨rfl, hb⟩; have n0_ := Aside0.mk (below_step (by repeat (first | (with_reducible first | exact HB.out | apply below_alloc | apply pw_below_drewN | apply below_drew1) | exact HB.out)) hb); clear HB; have HB := n0_; clear n0_; (try clear hb); (try clear hb2); (try clear hk); (try clear hi)))
            go_ret
            exact ⟨by first | rfl | (simp [errW_none, errW_some] <;> rfl) | (simp [*, errW_none, errW_some] <;> rfl), by repeat (first | (with_reducible first | exact HB.out | apply below_alloc | apply pw_below_drewN | apply below_drew1) | exact HB.out)⟩
          · rw [if_neg c13] at H
            have c13b0 : (t141 == 0) = false := beq_eq_false_iff_ne.mpr c13
            have c13b1 : (t141 != 0) = true := bne_iff_ne.mpr c13
            obtain rfl := Option.some.inj H
            go_wp2_with (first | ((with_reducible refine gate_callee (f := 26) rfl ?_); refine goesL_ (some 48) rfl rfl Try.func26 (by kernel_rfl) rfl #[.int .i64 (wrap64 (2 + (wrap64 (Int.tmod (IntKind.u64.wrap (a1)) 511)))), .int .i64 t139] rfl (by (try simp only [List.map_toArray, List.map_cons, List.map_nil]); first | done | rfl | (simp only [List.length_drop, List.length_take]; rfl)) ?_; (with_reducible refine (fit_Takes.calls kj3 (wrap64 (2 + (wrap64 (Int.tmod (IntKind.u64.wrap (a1)) 511)))) t139 t141 _ A11.out).mono ?_); rintro e w' ⟨rfl, ⟨nd, rfl⟩⟩; refine ⟨_, rfl, ?_⟩))
            go_ret
            exact ⟨by first | rfl | (simp [errW_none, errW_some] <;> rfl) | (simp [*, errW_none, errW_some] <;> rfl), by repeat (first | (with_reducible first | exact HB.out | apply below_alloc | apply pw_below_drewN | apply below_drew1) | exact HB.out)⟩
        · rw [if_neg c12] at H
          have c12b0 : decide ((wrap64 (2 + (wrap64 (Int.tmod (IntKind.u64.wrap (a1)) 511)))) < t139) = false := decide_eq_false c12
          clear c12
          by_cases c16 : t141 ≥ t139
          · rw [if_pos c16] at H
            have c16b0 : decide (t139 ≤ t141) = true := decide_eq_true c16
            clear c16
            by_cases c17 : t141 = (wrap64 (2 + (wrap64 (Int.tmod (IntKind.u64.wrap (a1)) 511))))
            · rw [if_pos c17] at H
              have c17b0 : (t141 == (wrap64 (2 + (wrap64 (Int.tmod (IntKind.u64.wrap (a1)) 511))))) = true := beq_iff_eq.mpr c17
              have c17b1 : (t141 != (wrap64 (2 + (wrap64 (Int.tmod (IntKind.u64.wrap (a1)) 511))))) = false := bne_eq_false_iff_eq.mpr c17
              clear c17
              by_cases c18 : t141 ≤ (wrap64 (t139 + 1))
              · rw [if_pos c18] at H
                have c18b0 : decide (t141 ≤ (wrap64 (t139 + 1))) = true := decide_eq_true c18
                clear c18
                replace H := Option.bind_eq_some_iff.mp H
                obtain ⟨t143, A190, H⟩ := H
                replace H : (if t143 = 0 then ((fit_Need.f 449).bind fun t144 => (if t144 = 0 then ((darninglaw15_awake.f kj3).bind fun t145 => (some t145)) else (some false))) else (some false)) = some r := H
                have A19 := Aside0.mk A190
                clear A190
                by_cases c20 : t143 = 0
                · rw [if_pos c20] at H
                  have c20b0 : (t143 == 0) = true := beq_iff_eq.mpr c20
                  have c20b1 : (t143 != 0) = false := bne_eq_false_iff_eq.mpr c20
                  clear c20
                  replace H := Option.bind_eq_some_iff.mp H
                  obtain ⟨t144, A210, H⟩ := H
                  replace H : (if t144 = 0 then ((darninglaw15_awake.f kj3).bind fun t145 => (some t145)) else (some false)) = some r := H
                  have A21 := Aside0.mk A210
                  clear A210
                  by_cases c22 : t144 = 0
                  · rw [if_pos c22] at H
                    have c22b0 : (t144 == 0) = true := beq_iff_eq.mpr c22
                    have c22b1 : (t144 != 0) = false := bne_eq_false_iff_eq.mpr c22
                    clear c22
                    replace H := Option.bind_eq_some_iff.mp H
                    obtain ⟨t145, A230, H⟩ := H
                    replace H : (some t145) = some r := H
                    have A23 := Aside0.mk A230
                    clear A230
                    obtain rfl := Option.some.inj H
                    go_wp2_with (first | ((with_reducible refine gate_callee (f := 26) rfl ?_); refine goesL_ (some 48) rfl rfl Try.func26 (by kernel_rfl) rfl #[.int .i64 (wrap64 (2 + (wrap64 (Int.tmod (IntKind.u64.wrap (a1)) 511)))), .int .i64 t139] rfl (by (try simp only [List.map_toArray, List.map_cons, List.map_nil]); first | done | rfl | (simp only [List.length_drop, List.length_take]; rfl)) ?_; (with_reducible refine (fit_Takes.calls kj3 (wrap64 (2 + (wrap64 (Int.tmod (IntKind.u64.wrap (a1)) 511)))) t139 t141 _ A11.out).mono ?_); rintro e w' ⟨rfl, ⟨nd, rfl⟩⟩; refine ⟨_, rfl, ?_⟩) | (go_at_call 25; (with_reducible refine (fit_Need.calls 0 t143 _ A19.out).mono ?_); rintro e w' ⟨rfl, ⟨nd, rfl⟩⟩) | (go_at_call 25; (with_reducible refine (fit_Need.calls 449 t144 _ A21.out).mono ?_); rintro e w' ⟨rfl, ⟨nd, rfl⟩⟩) | (go_at_call 21; (with_reducible refine (darninglaw15_awake.calls kj3  t145 _ A23.out).mono ?_); rintro e w24 ⟨rfl, hb⟩; have n0_ := Aside0.mk (below_step (by repeat (first | (with_reducible first | exact HB.out | apply below_alloc | apply pw_below_drewN | apply below_drew1) | exact HB.out)) hb); clear HB; have HB := n0_; clear n0_; (try clear hb); (try clear hb2); (try clear hk); (try clear hi)))
                    go_ret
                    exact ⟨by first | rfl | (simp [errW_none, errW_some] <;> rfl) | (simp [*, errW_none, errW_some] <;> rfl), by repeat (first | (with_reducible first | exact HB.out | apply below_alloc | apply pw_below_drewN | apply below_drew1) | exact HB.out)⟩
                  · rw [if_neg c22] at H
                    have c22b0 : (t144 == 0) = false := beq_eq_false_iff_ne.mpr c22
                    have c22b1 : (t144 != 0) = true := bne_iff_ne.mpr c22
                    obtain rfl := Option.some.inj H
                    go_wp2_with (first | ((with_reducible refine gate_callee (f := 26) rfl ?_); refine goesL_ (some 48) rfl rfl Try.func26 (by kernel_rfl) rfl #[.int .i64 (wrap64 (2 + (wrap64 (Int.tmod (IntKind.u64.wrap (a1)) 511)))), .int .i64 t139] rfl (by (try simp only [List.map_toArray, List.map_cons, List.map_nil]); first | done | rfl | (simp only [List.length_drop, List.length_take]; rfl)) ?_; (with_reducible refine (fit_Takes.calls kj3 (wrap64 (2 + (wrap64 (Int.tmod (IntKind.u64.wrap (a1)) 511)))) t139 t141 _ A11.out).mono ?_); rintro e w' ⟨rfl, ⟨nd, rfl⟩⟩; refine ⟨_, rfl, ?_⟩) | (go_at_call 25; (with_reducible refine (fit_Need.calls 0 t143 _ A19.out).mono ?_); rintro e w' ⟨rfl, ⟨nd, rfl⟩⟩) | (go_at_call 25; (with_reducible refine (fit_Need.calls 449 t144 _ A21.out).mono ?_); rintro e w' ⟨rfl, ⟨nd, rfl⟩⟩))
                    go_ret
                    exact ⟨by first | rfl | (simp [errW_none, errW_some] <;> rfl) | (simp [*, errW_none, errW_some] <;> rfl), by repeat (first | (with_reducible first | exact HB.out | apply below_alloc | apply pw_below_drewN | apply below_drew1) | exact HB.out)⟩
                · rw [if_neg c20] at H
                  have c20b0 : (t143 == 0) = false := beq_eq_false_iff_ne.mpr c20
                  have c20b1 : (t143 != 0) = true := bne_iff_ne.mpr c20
                  obtain rfl := Option.some.inj H
                  go_wp2_with (first | ((with_reducible refine gate_callee (f := 26) rfl ?_); refine goesL_ (some 48) rfl rfl Try.func26 (by kernel_rfl) rfl #[.int .i64 (wrap64 (2 + (wrap64 (Int.tmod (IntKind.u64.wrap (a1)) 511)))), .int .i64 t139] rfl (by (try simp only [List.map_toArray, List.map_cons, List.map_nil]); first | done | rfl | (simp only [List.length_drop, List.length_take]; rfl)) ?_; (with_reducible refine (fit_Takes.calls kj3 (wrap64 (2 + (wrap64 (Int.tmod (IntKind.u64.wrap (a1)) 511)))) t139 t141 _ A11.out).mono ?_); rintro e w' ⟨rfl, ⟨nd, rfl⟩⟩; refine ⟨_, rfl, ?_⟩) | (go_at_call 25; (with_reducible refine (fit_Need.calls 0 t143 _ A19.out).mono ?_); rintro e w' ⟨rfl, ⟨nd, rfl⟩⟩))
                  go_ret
                  exact ⟨by first | rfl | (simp [errW_none, errW_some] <;> rfl) | (simp [*, errW_none, errW_some] <;> rfl), by repeat (first | (with_reducible first | exact HB.out | apply below_alloc | apply pw_below_drewN | apply below_drew1) | exact HB.out)⟩
              · rw [if_neg c18] at H
                have c18b0 : decide (t141 ≤ (wrap64 (t139 + 1))) = false := decide_eq_false c18
                clear c18
                obtain rfl := Option.some.inj H
                go_wp2_with (first | ((with_reducible refine gate_callee (f := 26) rfl ?_); refine goesL_ (some 48) rfl rfl Try.func26 (by kernel_rfl) rfl #[.int .i64 (wrap64 (2 + (wrap64 (Int.tmod (IntKind.u64.wrap (a1)) 511)))), .int .i64 t139] rfl (by (try simp only [List.map_toArray, List.map_cons, List.map_nil]); first | done | rfl | (simp only [List.length_drop, List.length_take]; rfl)) ?_; (with_reducible refine (fit_Takes.calls kj3 (wrap64 (2 + (wrap64 (Int.tmod (IntKind.u64.wrap (a1)) 511)))) t139 t141 _ A11.out).mono ?_); rintro e w' ⟨rfl, ⟨nd, rfl⟩⟩; refine ⟨_, rfl, ?_⟩))
                go_ret
                exact ⟨by first | rfl | (simp [errW_none, errW_some] <;> rfl) | (simp [*, errW_none, errW_some] <;> rfl), by repeat (first | (with_reducible first | exact HB.out | apply below_alloc | apply pw_below_drewN | apply below_drew1) | exact HB.out)⟩
            · rw [if_neg c17] at H
              have c17b0 : (t141 == (wrap64 (2 + (wrap64 (Int.tmod (IntKind.u64.wrap (a1)) 511))))) = false := beq_eq_false_iff_ne.mpr c17
              have c17b1 : (t141 != (wrap64 (2 + (wrap64 (Int.tmod (IntKind.u64.wrap (a1)) 511))))) = true := bne_iff_ne.mpr c17
              by_cases c25 : (wrap64 ((wrap64 (2 + (wrap64 (Int.tmod (IntKind.u64.wrap (a1)) 511)))) - t141)) ≥ 2
              · rw [if_pos c25] at H
                have c25b0 : decide (2 ≤ (wrap64 ((wrap64 (2 + (wrap64 (Int.tmod (IntKind.u64.wrap (a1)) 511)))) - t141))) = true := decide_eq_true c25
                clear c25
                by_cases c26 : t141 ≤ (wrap64 (t139 + 1))
                · rw [if_pos c26] at H
                  have c26b0 : decide (t141 ≤ (wrap64 (t139 + 1))) = true := decide_eq_true c26
                  clear c26
                  replace H := Option.bind_eq_some_iff.mp H
                  obtain ⟨t146, A270, H⟩ := H
                  replace H : (if t146 = 0 then ((fit_Need.f 449).bind fun t147 => (if t147 = 0 then ((darninglaw15_awake.f kj3).bind fun t148 => (some t148)) else (some false))) else (some false)) = some r := H
                  have A27 := Aside0.mk A270
                  clear A270
                  by_cases c28 : t146 = 0
                  · rw [if_pos c28] at H
                    have c28b0 : (t146 == 0) = true := beq_iff_eq.mpr c28
                    have c28b1 : (t146 != 0) = false := bne_eq_false_iff_eq.mpr c28
                    clear c28
                    replace H := Option.bind_eq_some_iff.mp H
                    obtain ⟨t147, A290, H⟩ := H
                    replace H : (if t147 = 0 then ((darninglaw15_awake.f kj3).bind fun t148 => (some t148)) else (some false)) = some r := H
                    have A29 := Aside0.mk A290
                    clear A290
                    by_cases c30 : t147 = 0
                    · rw [if_pos c30] at H
                      have c30b0 : (t147 == 0) = true := beq_iff_eq.mpr c30
                      have c30b1 : (t147 != 0) = false := bne_eq_false_iff_eq.mpr c30
                      clear c30
                      replace H := Option.bind_eq_some_iff.mp H
                      obtain ⟨t148, A310, H⟩ := H
                      replace H : (some t148) = some r := H
                      have A31 := Aside0.mk A310
                      clear A310
                      obtain rfl := Option.some.inj H
                      go_wp2_with (first | ((with_reducible refine gate_callee (f := 26) rfl ?_); refine goesL_ (some 48) rfl rfl Try.func26 (by kernel_rfl) rfl #[.int .i64 (wrap64 (2 + (wrap64 (Int.tmod (IntKind.u64.wrap (a1)) 511)))), .int .i64 t139] rfl (by (try simp only [List.map_toArray, List.map_cons, List.map_nil]); first | done | rfl | (simp only [List.length_drop, List.length_take]; rfl)) ?_; (with_reducible refine (fit_Takes.calls kj3 (wrap64 (2 + (wrap64 (Int.tmod (IntKind.u64.wrap (a1)) 511)))) t139 t141 _ A11.out).mono ?_); rintro e w' ⟨rfl, ⟨nd, rfl⟩⟩; refine ⟨_, rfl, ?_⟩) | (go_at_call 25; (with_reducible refine (fit_Need.calls 0 t146 _ A27.out).mono ?_); rintro e w' ⟨rfl, ⟨nd, rfl⟩⟩) | (go_at_call 25; (with_reducible refine (fit_Need.calls 449 t147 _ A29.out).mono ?_); rintro e w' ⟨rfl, ⟨nd, rfl⟩⟩) | (go_at_call 21; (with_reducible refine (darninglaw15_awake.calls kj3  t148 _ A31.out).mono ?_); rintro e w32 ⟨rfl, hb⟩; have n0_ := Aside0.mk (below_step (by repeat (first | (with_reducible first | exact HB.out | apply below_alloc | apply pw_below_drewN | apply below_drew1) | exact HB.out)) hb); clear HB; have HB := n0_; clear n0_; (try clear hb); (try clear hb2); (try clear hk); (try clear hi)))
                      go_ret
                      exact ⟨by first | rfl | (simp [errW_none, errW_some] <;> rfl) | (simp [*, errW_none, errW_some] <;> rfl), by repeat (first | (with_reducible first | exact HB.out | apply below_alloc | apply pw_below_drewN | apply below_drew1) | exact HB.out)⟩
                    · rw [if_neg c30] at H
                      have c30b0 : (t147 == 0) = false := beq_eq_false_iff_ne.mpr c30
                      have c30b1 : (t147 != 0) = true := bne_iff_ne.mpr c30
                      obtain rfl := Option.some.inj H
                      go_wp2_with (first | ((with_reducible refine gate_callee (f := 26) rfl ?_); refine goesL_ (some 48) rfl rfl Try.func26 (by kernel_rfl) rfl #[.int .i64 (wrap64 (2 + (wrap64 (Int.tmod (IntKind.u64.wrap (a1)) 511)))), .int .i64 t139] rfl (by (try simp only [List.map_toArray, List.map_cons, List.map_nil]); first | done | rfl | (simp only [List.length_drop, List.length_take]; rfl)) ?_; (with_reducible refine (fit_Takes.calls kj3 (wrap64 (2 + (wrap64 (Int.tmod (IntKind.u64.wrap (a1)) 511)))) t139 t141 _ A11.out).mono ?_); rintro e w' ⟨rfl, ⟨nd, rfl⟩⟩; refine ⟨_, rfl, ?_⟩) | (go_at_call 25; (with_reducible refine (fit_Need.calls 0 t146 _ A27.out).mono ?_); rintro e w' ⟨rfl, ⟨nd, rfl⟩⟩) | (go_at_call 25; (with_reducible refine (fit_Need.calls 449 t147 _ A29.out).mono ?_); rintro e w' ⟨rfl, ⟨nd, rfl⟩⟩))
                      go_ret
                      exact ⟨by first | rfl | (simp [errW_none, errW_some] <;> rfl) | (simp [*, errW_none, errW_some] <;> rfl), by repeat (first | (with_reducible first | exact HB.out | apply below_alloc | apply pw_below_drewN | apply below_drew1) | exact HB.out)⟩
                  · rw [if_neg c28] at H
                    have c28b0 : (t146 == 0) = false := beq_eq_false_iff_ne.mpr c28
                    have c28b1 : (t146 != 0) = true := bne_iff_ne.mpr c28
                    obtain rfl := Option.some.inj H
                    go_wp2_with (first | ((with_reducible refine gate_callee (f := 26) rfl ?_); refine goesL_ (some 48) rfl rfl Try.func26 (by kernel_rfl) rfl #[.int .i64 (wrap64 (2 + (wrap64 (Int.tmod (IntKind.u64.wrap (a1)) 511)))), .int .i64 t139] rfl (by (try simp only [List.map_toArray, List.map_cons, List.map_nil]); first | done | rfl | (simp only [List.length_drop, List.length_take]; rfl)) ?_; (with_reducible refine (fit_Takes.calls kj3 (wrap64 (2 + (wrap64 (Int.tmod (IntKind.u64.wrap (a1)) 511)))) t139 t141 _ A11.out).mono ?_); rintro e w' ⟨rfl, ⟨nd, rfl⟩⟩; refine ⟨_, rfl, ?_⟩) | (go_at_call 25; (with_reducible refine (fit_Need.calls 0 t146 _ A27.out).mono ?_); rintro e w' ⟨rfl, ⟨nd, rfl⟩⟩))
                    go_ret
                    exact ⟨by first | rfl | (simp [errW_none, errW_some] <;> rfl) | (simp [*, errW_none, errW_some] <;> rfl), by repeat (first | (with_reducible first | exact HB.out | apply below_alloc | apply pw_below_drewN | apply below_drew1) | exact HB.out)⟩
                · rw [if_neg c26] at H
                  have c26b0 : decide (t141 ≤ (wrap64 (t139 + 1))) = false := decide_eq_false c26
                  clear c26
                  obtain rfl := Option.some.inj H
                  go_wp2_with (first | ((with_reducible refine gate_callee (f := 26) rfl ?_); refine goesL_ (some 48) rfl rfl Try.func26 (by kernel_rfl) rfl #[.int .i64 (wrap64 (2 + (wrap64 (Int.tmod (IntKind.u64.wrap (a1)) 511)))), .int .i64 t139] rfl (by (try simp only [List.map_toArray, List.map_cons, List.map_nil]); first | done | rfl | (simp only [List.length_drop, List.length_take]; rfl)) ?_; (with_reducible refine (fit_Takes.calls kj3 (wrap64 (2 + (wrap64 (Int.tmod (IntKind.u64.wrap (a1)) 511)))) t139 t141 _ A11.out).mono ?_); rintro e w' ⟨rfl, ⟨nd, rfl⟩⟩; refine ⟨_, rfl, ?_⟩))
                  go_ret
                  exact ⟨by first | rfl | (simp [errW_none, errW_some] <;> rfl) | (simp [*, errW_none, errW_some] <;> rfl), by repeat (first | (with_reducible first | exact HB.out | apply below_alloc | apply pw_below_drewN | apply below_drew1) | exact HB.out)⟩
              · rw [if_neg c25] at H
                have c25b0 : decide (2 ≤ (wrap64 ((wrap64 (2 + (wrap64 (Int.tmod (IntKind.u64.wrap (a1)) 511)))) - t141))) = false := decide_eq_false c25
                clear c25
                obtain rfl := Option.some.inj H
                go_wp2_with (first | ((with_reducible refine gate_callee (f := 26) rfl ?_); refine goesL_ (some 48) rfl rfl Try.func26 (by kernel_rfl) rfl #[.int .i64 (wrap64 (2 + (wrap64 (Int.tmod (IntKind.u64.wrap (a1)) 511)))), .int .i64 t139] rfl (by (try simp only [List.map_toArray, List.map_cons, List.map_nil]); first | done | rfl | (simp only [List.length_drop, List.length_take]; rfl)) ?_; (with_reducible refine (fit_Takes.calls kj3 (wrap64 (2 + (wrap64 (Int.tmod (IntKind.u64.wrap (a1)) 511)))) t139 t141 _ A11.out).mono ?_); rintro e w' ⟨rfl, ⟨nd, rfl⟩⟩; refine ⟨_, rfl, ?_⟩))
                go_ret
                exact ⟨by first | rfl | (simp [errW_none, errW_some] <;> rfl) | (simp [*, errW_none, errW_some] <;> rfl), by repeat (first | (with_reducible first | exact HB.out | apply below_alloc | apply pw_below_drewN | apply below_drew1) | exact HB.out)⟩
          · rw [if_neg c16] at H
            have c16b0 : decide (t139 ≤ t141) = false := decide_eq_false c16
            clear c16
            obtain rfl := Option.some.inj H
            go_wp2_with (first | ((with_reducible refine gate_callee (f := 26) rfl ?_); refine goesL_ (some 48) rfl rfl Try.func26 (by kernel_rfl) rfl #[.int .i64 (wrap64 (2 + (wrap64 (Int.tmod (IntKind.u64.wrap (a1)) 511)))), .int .i64 t139] rfl (by (try simp only [List.map_toArray, List.map_cons, List.map_nil]); first | done | rfl | (simp only [List.length_drop, List.length_take]; rfl)) ?_; (with_reducible refine (fit_Takes.calls kj3 (wrap64 (2 + (wrap64 (Int.tmod (IntKind.u64.wrap (a1)) 511)))) t139 t141 _ A11.out).mono ?_); rintro e w' ⟨rfl, ⟨nd, rfl⟩⟩; refine ⟨_, rfl, ?_⟩))
            go_ret
            exact ⟨by first | rfl | (simp [errW_none, errW_some] <;> rfl) | (simp [*, errW_none, errW_some] <;> rfl), by repeat (first | (with_reducible first | exact HB.out | apply below_alloc | apply pw_below_drewN | apply below_drew1) | exact HB.out)⟩

/-- THE ONE PURE STATEMENT of darninglaw15_FitNeeds: yours. -/
def darninglaw15_FitNeeds.Pure : Prop := ∀ (a0 : Int) (a1 : Int), (Lit.int .i64 a0).wf = true → (Lit.int .i64 a1).wf = true → ∃ k, darninglaw15_FitNeeds.f k a0 a1 = some true
theorem darninglaw15_FitNeeds.walk (P : darninglaw15_FitNeeds.Pure) (a0 : Int) (a1 : Int) (w : World) (w0 : (Lit.int .i64 a0).wf = true) (w1 : (Lit.int .i64 a1).wf = true) :
    Calls Try.prog 6 #[.int .i64 a0, .int .i64 a1] w fun e w' => e = .returned (.bool true) ∧ Below w.heap.size w w' := by
  obtain ⟨k, h⟩ := P a0 a1 w0 w1
  refine (darninglaw15_FitNeeds.calls k a0 a1 true w h).mono ?_
  rintro e w' ⟨rfl, hd⟩
  exact ⟨rfl, hd⟩

end Go.Proofs.Ytjmlbkbjmeeplab.XFitNeeds
