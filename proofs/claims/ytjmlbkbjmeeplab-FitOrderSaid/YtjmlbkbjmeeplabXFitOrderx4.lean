-- Laid by this session's own printer (wip/xprint.py): each Go function that the law reaches as a plain Lean function, and that the call comes to it.
import Derived.Test.YtjmlbkbjmeeplabXFitOrderx0
import Derived.Test.YtjmlbkbjmeeplabXFitOrderx1
import Derived.Test.YtjmlbkbjmeeplabXFitOrderx2
import Derived.Test.YtjmlbkbjmeeplabXFitOrderx3
namespace Go.Proofs.Ytjmlbkbjmeeplab.XFitOrder
open Go.RowKit Go.Proofs.YtjmlbkbjmeeplabW.PrintWords Go.Proofs.YtjmlbkbjmeeplabW.PrintLast Go.Proofs.YtjmlbkbjmeeplabW.PrintMore
attribute [local go_sem] max2_int min2_int max_two min_two max_three min_three max_four min_four   -- for this text's walks alone
set_option linter.unusedVariables false
set_option linter.unusedSimpArgs false

/-! ### darninglaw15_FitOrder: function 7 -/
mutual
def darninglaw15_FitOrder.j0 : Nat → List (S35) → Int → Bool → Option (Bool)
  | 0, _, _, _ => none
  | k + 1, x0, x2, x21 => if x21 = true then ((darninglaw15_awake.f k).bind fun t145 => (some t145)) else ((fit_Fits.f k x0 (wrap64 (2 + (wrap64 (Int.tmod (IntKind.u64.wrap (x2)) 60))))).bind fun t146 => ((fit_Choose.f k x0 (wrap64 (2 + (wrap64 (Int.tmod (IntKind.u64.wrap (x2)) 60)))) ([] : List Int)).bind fun t149 => (if (t146.length : Int) = 0 then (if t149 = (-1) then ((darninglaw15_awake.f k).bind fun t150 => (some t150)) else (some false)) else (if 0 < (t146.length : Int) then (if t149 = (rd t146 0) then (if t149 < 0 then (darninglaw15_FitOrder.j1 k x0 (wrap64 (2 + (wrap64 (Int.tmod (IntKind.u64.wrap (x2)) 60)))) t146 t149 true) else (darninglaw15_FitOrder.j1 k x0 (wrap64 (2 + (wrap64 (Int.tmod (IntKind.u64.wrap (x2)) 60)))) t146 t149 (decide (t149 ≥ (x0.length : Int))))) else (darninglaw15_FitOrder.j1 k x0 (wrap64 (2 + (wrap64 (Int.tmod (IntKind.u64.wrap (x2)) 60)))) t146 t149 true)) else (none)))))
def darninglaw15_FitOrder.j1 : Nat → List (S35) → Int → List Int → Int → Bool → Option (Bool)
  | 0, _, _, _, _, _ => none
  | k + 1, x0, x2, x7, x8, x56 => if x56 = true then (some false) else (if 16 ≤ 35184372088832 then ((some (List.replicate 16 0 : List Int)).bind fun y152 => (if 0 ≤ x8 then (if x8 < (x0.length : Int) then (if 0 ≤ (wrap64 (Int.tdiv ((rd_T35 x0 x8).f0) 32)) then (if (wrap64 (Int.tdiv ((rd_T35 x0 x8).f0) 32)) < (y152.length : Int) then ((fit_Choose.f k x0 x2 (y152.set ((wrap64 (Int.tdiv ((rd_T35 x0 x8).f0) 32)) : Int).toNat (wrap64 ((rd y152 (wrap64 (Int.tdiv ((rd_T35 x0 x8).f0) 32))) + 1)))).bind fun t158 => (darninglaw15_FitOrder.l0 k x0 x8 t158 x7 (x7.length : Int) 0)) else (none)) else (none)) else (none)) else (none))) else (none))
def darninglaw15_FitOrder.l0 : Nat → List (S35) → Int → Int → List Int → Int → Int → Option (Bool)
  | 0, _, _, _, _, _, _ => none
  | k + 1, x0, x8, x10, x73, x74, x75 => if x75 < x74 then (if 0 ≤ x75 then (if x75 < (x73.length : Int) then (if (rd x73 x75) ≥ 0 then (if (rd x73 x75) < (x0.length : Int) then (if 0 ≤ (rd x73 x75) then (if 0 ≤ x8 then (if x8 < (x0.length : Int) then (if (wrap64 (Int.tdiv ((rd_T35 x0 (rd x73 x75)).f0) 32)) = (wrap64 (Int.tdiv ((rd_T35 x0 x8).f0) 32)) then (darninglaw15_FitOrder.l0 k x0 x8 x10 x73 x74 (wrap64 (x75 + 1))) else (if x10 = (rd x73 x75) then ((darninglaw15_awake.f k).bind fun t162 => (some t162)) else (some false))) else (none)) else (none)) else (none)) else (darninglaw15_FitOrder.l0 k x0 x8 x10 x73 x74 (wrap64 (x75 + 1)))) else (darninglaw15_FitOrder.l0 k x0 x8 x10 x73 x74 (wrap64 (x75 + 1)))) else (none)) else (none)) else (if x10 = x8 then ((darninglaw15_awake.f k).bind fun t163 => (some t163)) else (some false))
end
def darninglaw15_FitOrder.f (k : Nat) (l0 : List (S35)) (a1 : Int) (a2 : Int) : Option (Bool) := if (l0.length : Int) > 300 then (darninglaw15_FitOrder.j0 k l0 a2 true) else ((darningref4_MayBlocks.f k l0 a1).bind fun t144 => (darninglaw15_FitOrder.j0 k l0 a2 (!t144)))
theorem darninglaw15_FitOrder.mono_l : ∀ k, (∀ y0 y1 y2, LeO (darninglaw15_FitOrder.j0 k y0 y1 y2) (darninglaw15_FitOrder.j0 (k + 1) y0 y1 y2)) ∧ (∀ y0 y1 y2 y3 y4, LeO (darninglaw15_FitOrder.j1 k y0 y1 y2 y3 y4) (darninglaw15_FitOrder.j1 (k + 1) y0 y1 y2 y3 y4)) ∧ (∀ y0 y1 y2 y3 y4 y5, LeO (darninglaw15_FitOrder.l0 k y0 y1 y2 y3 y4 y5) (darninglaw15_FitOrder.l0 (k + 1) y0 y1 y2 y3 y4 y5))
  | 0 => ⟨fun _ _ _ r h => by simp [darninglaw15_FitOrder.j0] at h, fun _ _ _ _ _ r h => by simp [darninglaw15_FitOrder.j1] at h, fun _ _ _ _ _ _ r h => by simp [darninglaw15_FitOrder.l0] at h⟩
  | k + 1 => by
    obtain ⟨ih0, ih1, ih2⟩ := darninglaw15_FitOrder.mono_l k
    refine ⟨?_, ?_, ?_⟩
    · intro y0 y1 y2
      unfold darninglaw15_FitOrder.j0
      repeat' first
      | (with_reducible exact ih0 _ _ _)
      | (with_reducible exact ih1 _ _ _ _ _)
      | (with_reducible exact ih2 _ _ _ _ _ _)
      | (with_reducible exact darninglaw15_awake.mono _)
      | (with_reducible exact darningref4_MayBlocks.mono _ _ _)
      | (with_reducible exact fit_Choose.mono _ _ _ _)
      | (with_reducible exact fit_Fits.mono _ _ _)
      | (with_reducible exact LeO.refl _)
      | (with_reducible exact LeO.none _)
      | (with_reducible refine LeO.ite ?_ ?_)
      | (with_reducible refine LeO.bind ?_ (fun _ => ?_))
      | exact ih0 _ _ _
      | exact ih1 _ _ _ _ _
      | exact ih2 _ _ _ _ _ _
      | exact darninglaw15_awake.mono _
      | exact darningref4_MayBlocks.mono _ _ _
      | exact fit_Choose.mono _ _ _ _
      | exact fit_Fits.mono _ _ _
      | exact LeO.none _
      | refine LeO.ite ?_ ?_
      | refine LeO.bind ?_ (fun _ => ?_)
    · intro y0 y1 y2 y3 y4
      unfold darninglaw15_FitOrder.j1
      repeat' first
      | (with_reducible exact ih0 _ _ _)
      | (with_reducible exact ih1 _ _ _ _ _)
      | (with_reducible exact ih2 _ _ _ _ _ _)
      | (with_reducible exact darninglaw15_awake.mono _)
      | (with_reducible exact darningref4_MayBlocks.mono _ _ _)
      | (with_reducible exact fit_Choose.mono _ _ _ _)
      | (with_reducible exact fit_Fits.mono _ _ _)
      | (with_reducible exact LeO.refl _)
      | (with_reducible exact LeO.none _)
      | (with_reducible refine LeO.ite ?_ ?_)
      | (with_reducible refine LeO.bind ?_ (fun _ => ?_))
      | exact ih0 _ _ _
      | exact ih1 _ _ _ _ _
      | exact ih2 _ _ _ _ _ _
      | exact darninglaw15_awake.mono _
      | exact darningref4_MayBlocks.mono _ _ _
      | exact fit_Choose.mono _ _ _ _
      | exact fit_Fits.mono _ _ _
      | exact LeO.none _
      | refine LeO.ite ?_ ?_
      | refine LeO.bind ?_ (fun _ => ?_)
    · intro y0 y1 y2 y3 y4 y5
      unfold darninglaw15_FitOrder.l0
      repeat' first
      | (with_reducible exact ih0 _ _ _)
      | (with_reducible exact ih1 _ _ _ _ _)
      | (with_reducible exact ih2 _ _ _ _ _ _)
      | (with_reducible exact darninglaw15_awake.mono _)
      | (with_reducible exact darningref4_MayBlocks.mono _ _ _)
      | (with_reducible exact fit_Choose.mono _ _ _ _)
      | (with_reducible exact fit_Fits.mono _ _ _)
      | (with_reducible exact LeO.refl _)
      | (with_reducible exact LeO.none _)
      | (with_reducible refine LeO.ite ?_ ?_)
      | (with_reducible refine LeO.bind ?_ (fun _ => ?_))
      | exact ih0 _ _ _
      | exact ih1 _ _ _ _ _
      | exact ih2 _ _ _ _ _ _
      | exact darninglaw15_awake.mono _
      | exact darningref4_MayBlocks.mono _ _ _
      | exact fit_Choose.mono _ _ _ _
      | exact fit_Fits.mono _ _ _
      | exact LeO.none _
      | refine LeO.ite ?_ ?_
      | refine LeO.bind ?_ (fun _ => ?_)
theorem darninglaw15_FitOrder.mono : ∀ a0 a1 a2 k, LeO (darninglaw15_FitOrder.f k a0 a1 a2) (darninglaw15_FitOrder.f (k + 1) a0 a1 a2) := by
  intro a0 a1 a2 k
  obtain ⟨ih0, ih1, ih2⟩ := darninglaw15_FitOrder.mono_l k
  unfold darninglaw15_FitOrder.f
  repeat' first
      | (with_reducible exact ih0 _ _ _)
      | (with_reducible exact ih1 _ _ _ _ _)
      | (with_reducible exact ih2 _ _ _ _ _ _)
      | (with_reducible exact darninglaw15_awake.mono _)
      | (with_reducible exact darningref4_MayBlocks.mono _ _ _)
      | (with_reducible exact fit_Choose.mono _ _ _ _)
      | (with_reducible exact fit_Fits.mono _ _ _)
      | (with_reducible exact LeO.refl _)
      | (with_reducible exact LeO.none _)
      | (with_reducible refine LeO.ite ?_ ?_)
      | (with_reducible refine LeO.bind ?_ (fun _ => ?_))
      | exact ih0 _ _ _
      | exact ih1 _ _ _ _ _
      | exact ih2 _ _ _ _ _ _
      | exact darninglaw15_awake.mono _
      | exact darningref4_MayBlocks.mono _ _ _
      | exact fit_Choose.mono _ _ _ _
      | exact fit_Fits.mono _ _ _
      | exact LeO.none _
      | refine LeO.ite ?_ ?_
      | refine LeO.bind ?_ (fun _ => ?_)
set_option maxHeartbeats 8000000 in
set_option maxRecDepth 100000 in
theorem darninglaw15_FitOrder.calls (k : Nat) (A0 : Option Addr) (c0 : Nat) (l0 : List (S35)) (a1 : Int) (a2 : Int) (r : Bool) (w : World) (hr0 : Kd.C k35 w A0 l0.length l0) (hc0 : l0.length ≤ c0) (h : darninglaw15_FitOrder.f k l0 a1 a2 = some r) :
    Calls Try.prog 7 #[.slice A0 l0.length c0, .int .i64 a1, .int .i64 a2] w fun e w' => e = .returned (.bool r) ∧ Below w.heap.size w w' := by
  have HR0 := Aside0.mk hr0
  have HC0 := Aside0.mk hc0
  clear hr0 hc0
  have HB := Aside0.mk (Below.refl w.heap.size w)
  have H : (if (l0.length : Int) > 300 then (darninglaw15_FitOrder.j0 k l0 a2 true) else ((darningref4_MayBlocks.f k l0 a1).bind fun t144 => (darninglaw15_FitOrder.j0 k l0 a2 (!t144)))) = some r := h
  clear h
  have HC4 := Aside0.mk H
  clear H
  go_enter Try.func7, Try.ntmps7
  go_upto_region 1 with (fail)
  repeat (go_quiet (fail); go_upto_region 1 with (fail))
  go_cut [21] (fun v21 wc => ∃ (kq : Nat) (x21_3 : Bool), v21 = .bool x21_3 ∧ Aside0 (darninglaw15_FitOrder.j0 kq l0 a2 x21_3 = some r) ∧ Aside0 (kq ≤ k) ∧ Aside0 (Below w.heap.size w wc))
  case first =>
    have H := HC4.out
    clear HC4
    by_cases c5 : (l0.length : Int) > 300
    · rw [if_pos c5] at H
      have c5b0 : decide (300 < (l0.length : Int)) = true := decide_eq_true c5
      have c5b1 : decide (300 < l0.length) = true := decide_eq_true (by omega)
      clear c5
      (first | rw [c5b0] | (simp only [i64_w, i32_w]; rw [c5b0]) | skip)
      have H' := Aside0.mk H
      clear H
      go_wp2
      repeat (go_quiet (fail); try go_wp2)
      go_meet
      case rel => exact ⟨_, (true), (by first | rfl | (simp; done) | (simp [*]; done)), H', ⟨by first | omega | exact Nat.le_refl _⟩, ⟨by repeat (first | (with_reducible first | exact HB.out | apply below_alloc | apply pw_below_drewN | apply below_drew1) | exact HB.out)⟩⟩
    · rw [if_neg c5] at H
      have c5b0 : decide (300 < (l0.length : Int)) = false := decide_eq_false c5
      have c5b1 : decide (300 < l0.length) = false := decide_eq_false (by omega)
      clear c5
      (first | rw [c5b0] | (simp only [i64_w, i32_w]; rw [c5b0]) | skip)
      replace H := Option.bind_eq_some_iff.mp H
      obtain ⟨t144, A60, H⟩ := H
      replace H : (darninglaw15_FitOrder.j0 k l0 a2 (!t144)) = some r := H
      have A6 := Aside0.mk A60
      clear A60
      have H' := Aside0.mk H
      clear H
      go_wp2_with (first | (go_at_call 27; (with_reducible refine (darningref4_MayBlocks.calls k _ _ l0 a1 t144 _ ?side1 ?side2 A6.out).mono ?_); (case side1 => repeat (first | exact (Kd.C_below HR0.out HB.out) | (with_reducible refine Kd.C_alloc ?_ _) | (with_reducible refine Kd.C_drewN ?_ _) | (with_reducible refine Kd.C_drew ?_))); (case side2 => exact HC0.out); rintro e w7 ⟨rfl, hb⟩; have n0_ := Aside0.mk (below_step (by repeat (first | (with_reducible first | exact HB.out | apply below_alloc | apply pw_below_drewN | apply below_drew1) | exact HB.out)) hb); clear HB; have HB := n0_; clear n0_; (try clear hb); (try clear hb2); (try clear hk); (try clear hi)))
      repeat (go_quiet (first | (go_at_call 27; (with_reducible refine (darningref4_MayBlocks.calls k _ _ l0 a1 t144 _ ?side1 ?side2 A6.out).mono ?_); (case side1 => repeat (first | exact (Kd.C_below HR0.out HB.out) | (with_reducible refine Kd.C_alloc ?_ _) | (with_reducible refine Kd.C_drewN ?_ _) | (with_reducible refine Kd.C_drew ?_))); (case side2 => exact HC0.out); rintro e w7 ⟨rfl, hb⟩; have n0_ := Aside0.mk (below_step (by repeat (first | (with_reducible first | exact HB.out | apply below_alloc | apply pw_below_drewN | apply below_drew1) | exact HB.out)) hb); clear HB; have HB := n0_; clear n0_; (try clear hb); (try clear hb2); (try clear hk); (try clear hi))); try go_wp2_with (first | (go_at_call 27; (with_reducible refine (darningref4_MayBlocks.calls k _ _ l0 a1 t144 _ ?side1 ?side2 A6.out).mono ?_); (case side1 => repeat (first | exact (Kd.C_below HR0.out HB.out) | (with_reducible refine Kd.C_alloc ?_ _) | (with_reducible refine Kd.C_drewN ?_ _) | (with_reducible refine Kd.C_drew ?_))); (case side2 => exact HC0.out); rintro e w7 ⟨rfl, hb⟩; have n0_ := Aside0.mk (below_step (by repeat (first | (with_reducible first | exact HB.out | apply below_alloc | apply pw_below_drewN | apply below_drew1) | exact HB.out)) hb); clear HB; have HB := n0_; clear n0_; (try clear hb); (try clear hb2); (try clear hk); (try clear hi))))
      go_meet
      case rel => exact ⟨_, (!t144), (by first | rfl | (simp; done) | (simp [*]; done)), H', ⟨by first | omega | exact Nat.le_refl _⟩, ⟨by repeat (first | (with_reducible first | exact HB.out | apply below_alloc | apply pw_below_drewN | apply below_drew1) | exact HB.out)⟩⟩
  case rest =>
    clear HC4
    try clear p2
    try clear c5
    try clear c5b0
    try clear c5b1
    try clear c7
    obtain ⟨kq, x21_3, rfl, HA, HJ3, HB⟩ := hcut
    cases kq with
    | zero => exact absurd HA.out (by simp [darninglaw15_FitOrder.j0])
    | succ kj3 =>
      have H := HA.out
      clear HA
      simp only [darninglaw15_FitOrder.j0] at H
      by_cases c8 : x21_3 = true
      · subst c8
        have H1 : ((darninglaw15_awake.f kj3).bind fun t145 => (some t145)) = some r := by rw [if_pos rfl] at H; exact H
        clear H
        have H := H1
        clear H1
        replace H := Option.bind_eq_some_iff.mp H
        obtain ⟨t145, A90, H⟩ := H
        replace H : (some t145) = some r := H
        have A9 := Aside0.mk A90
        clear A90
        obtain rfl := Option.some.inj H
        go_wp2_with (first | (go_at_call 21; (with_reducible refine (darninglaw15_awake.calls kj3  t145 _ A9.out).mono ?_); rintro e w10 ⟨rfl, hb⟩; have n0_ := Aside0.mk (below_step (by repeat (first | (with_reducible first | exact HB.out | apply below_alloc | apply pw_below_drewN | apply below_drew1) | exact HB.out)) hb); clear HB; have HB := n0_; clear n0_; (try clear hb); (try clear hb2); (try clear hk); (try clear hi)))
        repeat (go_quiet (first | (go_at_call 21; (with_reducible refine (darninglaw15_awake.calls kj3  t145 _ A9.out).mono ?_); rintro e w10 ⟨rfl, hb⟩; have n0_ := Aside0.mk (below_step (by repeat (first | (with_reducible first | exact HB.out | apply below_alloc | apply pw_below_drewN | apply below_drew1) | exact HB.out)) hb); clear HB; have HB := n0_; clear n0_; (try clear hb); (try clear hb2); (try clear hk); (try clear hi))); try go_wp2_with (first | (go_at_call 21; (with_reducible refine (darninglaw15_awake.calls kj3  t145 _ A9.out).mono ?_); rintro e w10 ⟨rfl, hb⟩; have n0_ := Aside0.mk (below_step (by repeat (first | (with_reducible first | exact HB.out | apply below_alloc | apply pw_below_drewN | apply below_drew1) | exact HB.out)) hb); clear HB; have HB := n0_; clear n0_; (try clear hb); (try clear hb2); (try clear hk); (try clear hi))))
        go_ret
        exact ⟨by first | rfl | (simp [errW_none, errW_some] <;> rfl) | (simp [*, errW_none, errW_some] <;> rfl), by repeat (first | (with_reducible first | exact HB.out | apply below_alloc | apply pw_below_drewN | apply below_drew1) | exact HB.out)⟩
      · replace c8 := Bool.eq_false_iff.mpr c8
        subst c8
        have H1 : ((fit_Fits.f kj3 l0 (wrap64 (2 + (wrap64 (Int.tmod (IntKind.u64.wrap (a2)) 60))))).bind fun t146 => ((fit_Choose.f kj3 l0 (wrap64 (2 + (wrap64 (Int.tmod (IntKind.u64.wrap (a2)) 60)))) ([] : List Int)).bind fun t149 => (if (t146.length : Int) = 0 then (if t149 = (-1) then ((darninglaw15_awake.f kj3).bind fun t150 => (some t150)) else (some false)) else (if 0 < (t146.length : Int) then (if t149 = (rd t146 0) then (if t149 < 0 then (darninglaw15_FitOrder.j1 kj3 l0 (wrap64 (2 + (wrap64 (Int.tmod (IntKind.u64.wrap (a2)) 60)))) t146 t149 true) else (darninglaw15_FitOrder.j1 kj3 l0 (wrap64 (2 + (wrap64 (Int.tmod (IntKind.u64.wrap (a2)) 60)))) t146 t149 (decide (t149 ≥ (l0.length : Int))))) else (darninglaw15_FitOrder.j1 kj3 l0 (wrap64 (2 + (wrap64 (Int.tmod (IntKind.u64.wrap (a2)) 60)))) t146 t149 true)) else (none))))) = some r := by rw [if_neg (show ¬ (false = true) by decide)] at H; exact H
        clear H
        have H := H1
        clear H1
        replace H := Option.bind_eq_some_iff.mp H
        obtain ⟨t146, A110, H⟩ := H
        replace H : ((fit_Choose.f kj3 l0 (wrap64 (2 + (wrap64 (Int.tmod (IntKind.u64.wrap (a2)) 60)))) ([] : List Int)).bind fun t149 => (if (t146.length : Int) = 0 then (if t149 = (-1) then ((darninglaw15_awake.f kj3).bind fun t150 => (some t150)) else (some false)) else (if 0 < (t146.length : Int) then (if t149 = (rd t146 0) then (if t149 < 0 then (darninglaw15_FitOrder.j1 kj3 l0 (wrap64 (2 + (wrap64 (Int.tmod (IntKind.u64.wrap (a2)) 60)))) t146 t149 true) else (darninglaw15_FitOrder.j1 kj3 l0 (wrap64 (2 + (wrap64 (Int.tmod (IntKind.u64.wrap (a2)) 60)))) t146 t149 (decide (t149 ≥ (l0.length : Int))))) else (darninglaw15_FitOrder.j1 kj3 l0 (wrap64 (2 + (wrap64 (Int.tmod (IntKind.u64.wrap (a2)) 60)))) t146 t149 true)) else (none)))) = some r := H
        have A11 := Aside0.mk A110
        clear A110
        replace H := Option.bind_eq_some_iff.mp H
        obtain ⟨t149, A120, H⟩ := H
        replace H : (if (t146.length : Int) = 0 then (if t149 = (-1) then ((darninglaw15_awake.f kj3).bind fun t150 => (some t150)) else (some false)) else (if 0 < (t146.length : Int) then (if t149 = (rd t146 0) then (if t149 < 0 then (darninglaw15_FitOrder.j1 kj3 l0 (wrap64 (2 + (wrap64 (Int.tmod (IntKind.u64.wrap (a2)) 60)))) t146 t149 true) else (darninglaw15_FitOrder.j1 kj3 l0 (wrap64 (2 + (wrap64 (Int.tmod (IntKind.u64.wrap (a2)) 60)))) t146 t149 (decide (t149 ≥ (l0.length : Int))))) else (darninglaw15_FitOrder.j1 kj3 l0 (wrap64 (2 + (wrap64 (Int.tmod (IntKind.u64.wrap (a2)) 60)))) t146 t149 true)) else (none))) = some r := H
        have A12 := Aside0.mk A120
        clear A120
        by_cases c13 : (t146.length : Int) = 0
        · rw [if_pos c13] at H
          have c13b0 : ((t146.length : Int) == 0) = true := beq_iff_eq.mpr c13
          have c13b1 : ((t146.length : Int) != 0) = false := bne_eq_false_iff_eq.mpr c13
          clear c13
          by_cases c14 : t149 = (-1)
          · rw [if_pos c14] at H
            have c14b0 : (t149 == (-1)) = true := beq_iff_eq.mpr c14
            have c14b1 : (t149 != (-1)) = false := bne_eq_false_iff_eq.mpr c14
            clear c14
            replace H := Option.bind_eq_some_iff.mp H
            obtain ⟨t150, A150, H⟩ := H
            replace H : (some t150) = some r := H
            have A15 := Aside0.mk A150
            clear A150
            obtain rfl := Option.some.inj H
            go_wp2_with (first | (go_at_call 23; (with_reducible refine (fit_Fits.calls kj3 _ _ l0 (wrap64 (2 + (wrap64 (Int.tmod (IntKind.u64.wrap (a2)) 60)))) t146 _ ?side1 ?side2 A11.out).mono ?_); (case side1 => repeat (first | exact (Kd.C_below HR0.out HB.out) | (with_reducible refine Kd.C_alloc ?_ _) | (with_reducible refine Kd.C_drewN ?_ _) | (with_reducible refine Kd.C_drew ?_))); (case side2 => exact HC0.out); rintro e w16 ⟨v147, rfl, ho0, hb⟩; have n0_ := Aside0.mk (Kd.R_lower ho0 (below_size (by repeat (first | (with_reducible first | exact HB.out | apply below_alloc | apply pw_below_drewN | apply below_drew1) | exact HB.out)))); have n1_ := Aside0.mk (below_step (by repeat (first | (with_reducible first | exact HB.out | apply below_alloc | apply pw_below_drewN | apply below_drew1) | exact HB.out)) hb); clear HB; have HO148 := n0_; have HB := n1_; clear n0_ n1_; (try clear hb); (try clear hb2); (try clear hk); (try clear hi); (try clear ho0)) | (go_at_call 22; (refine (fit_Choose.calls kj3 _ _ l0 (wrap64 (2 + (wrap64 (Int.tmod (IntKind.u64.wrap (a2)) 60)))) _ _ ([] : List Int) t149 _ ?side1 ?side2 ?side3 ?side4 A12.out).mono ?_); (case side1 => repeat (first | exact (Kd.C_below HR0.out HB.out) | (with_reducible refine Kd.C_alloc ?_ _) | (with_reducible refine Kd.C_drewN ?_ _) | (with_reducible refine Kd.C_drew ?_))); (case side2 => exact HC0.out); (case side3 => exact Kd.C_nil _ _); (case side4 => exact Nat.le_refl _); rintro e w17 ⟨rfl, hb⟩; have n0_ := Aside0.mk (Kd.R_below (by (with_reducible repeat (first | apply Kd.R_alloc | apply Kd.R_drewN | apply Kd.R_drew)); exact HO148.out) hb); have n1_ := Aside0.mk (below_step (by repeat (first | (with_reducible first | exact HB.out | apply below_alloc | apply pw_below_drewN | apply below_drew1) | exact HB.out)) hb); clear HO148; clear HB; have HO148 := n0_; have HB := n1_; clear n0_ n1_; (try clear hb); (try clear hb2); (try clear hk); (try clear hi); obtain ⟨Ao18, co18, eo18⟩ := Kd.R_slice HO148.out; subst eo18) | (go_at_call 21; (with_reducible refine (darninglaw15_awake.calls kj3  t150 _ A15.out).mono ?_); rintro e w19 ⟨rfl, hb⟩; have n0_ := Aside0.mk (Kd.R_below (by (with_reducible repeat (first | apply Kd.R_alloc | apply Kd.R_drewN | apply Kd.R_drew)); exact HO148.out) hb); have n1_ := Aside0.mk (below_step (by repeat (first | (with_reducible first | exact HB.out | apply below_alloc | apply pw_below_drewN | apply below_drew1) | exact HB.out)) hb); clear HO148; clear HB; have HO148 := n0_; have HB := n1_; clear n0_ n1_; (try clear hb); (try clear hb2); (try clear hk); (try clear hi)))
            repeat (go_quiet (first | (go_at_call 23; (with_reducible refine (fit_Fits.calls kj3 _ _ l0 (wrap64 (2 + (wrap64 (Int.tmod (IntKind.u64.wrap (a2)) 60)))) t146 _ ?side1 ?side2 A11.out).mono ?_); (case side1 => repeat (first | exact (Kd.C_below HR0.out HB.out) | (with_reducible refine Kd.C_alloc ?_ _) | (with_reducible refine Kd.C_drewN ?_ _) | (with_reducible refine Kd.C_drew ?_))); (case side2 => exact HC0.out); rintro e w16 ⟨v147, rfl, ho0, hb⟩; have n0_ := Aside0.mk (Kd.R_lower ho0 (below_size (by repeat (first | (with_reducible first | exact HB.out | apply below_alloc | apply pw_below_drewN | apply below_drew1) | exact HB.out)))); have n1_ := Aside0.mk (below_step (by repeat (first | (with_reducible first | exact HB.out | apply below_alloc | apply pw_below_drewN | apply below_drew1) | exact HB.out)) hb); clear HB; have HO148 := n0_; have HB := n1_; clear n0_ n1_; (try clear hb); (try clear hb2); (try clear hk); (try clear hi); (try clear ho0)) | (go_at_call 22; (refine (fit_Choose.calls kj3 _ _ l0 (wrap64 (2 + (wrap64 (Int.tmod (IntKind.u64.wrap (a2)) 60)))) _ _ ([] : List Int) t149 _ ?side1 ?side2 ?side3 ?side4 A12.out).mono ?_); (case side1 => repeat (first | exact (Kd.C_below HR0.out HB.out) | (with_reducible refine Kd.C_alloc ?_ _) | (with_reducible refine Kd.C_drewN ?_ _) | (with_reducible refine Kd.C_drew ?_))); (case side2 => exact HC0.out); (case side3 => exact Kd.C_nil _ _); (case side4 => exact Nat.le_refl _); rintro e w17 ⟨rfl, hb⟩; have n0_ := Aside0.mk (Kd.R_below (by (with_reducible repeat (first | apply Kd.R_alloc | apply Kd.R_drewN | apply Kd.R_drew)); exact HO148.out) hb); have n1_ := Aside0.mk (below_step (by repeat (first | (with_reducible first | exact HB.out | apply below_alloc | apply pw_below_drewN | apply below_drew1) | exact HB.out)) hb); clear HO148; clear HB; have HO148 := n0_; have HB := n1_; clear n0_ n1_; (try clear hb); (try clear hb2); (try clear hk); (try clear hi); obtain ⟨Ao18, co18, eo18⟩ := Kd.R_slice HO148.out; subst eo18) | (go_at_call 21; (with_reducible refine (darninglaw15_awake.calls kj3  t150 _ A15.out).mono ?_); rintro e w19 ⟨rfl, hb⟩; have n0_ := Aside0.mk (Kd.R_below (by (with_reducible repeat (first | apply Kd.R_alloc | apply Kd.R_drewN | apply Kd.R_drew)); exact HO148.out) hb); have n1_ := Aside0.mk (below_step (by repeat (first | (with_reducible first | exact HB.out | apply below_alloc | apply pw_below_drewN | apply below_drew1) | exact HB.out)) hb); clear HO148; clear HB; have HO148 := n0_; have HB := n1_; clear n0_ n1_; (try clear hb); (try clear hb2); (try clear hk); (try clear hi))); try go_wp2_with (first | (go_at_call 23; (with_reducible refine (fit_Fits.calls kj3 _ _ l0 (wrap64 (2 + (wrap64 (Int.tmod (IntKind.u64.wrap (a2)) 60)))) t146 _ ?side1 ?side2 A11.out).mono ?_); (case side1 => repeat (first | exact (Kd.C_below HR0.out HB.out) | (with_reducible refine Kd.C_alloc ?_ _) | (with_reducible refine Kd.C_drewN ?_ _) | (with_reducible refine Kd.C_drew ?_))); (case side2 => exact HC0.out); rintro e w16 ⟨v147, rfl, ho0, hb⟩; have n0_ := Aside0.mk (Kd.R_lower ho0 (below_size (by repeat (first | (with_reducible first | exact HB.out | apply below_alloc | apply pw_below_drewN | apply below_drew1) | exact HB.out)))); have n1_ := Aside0.mk (below_step (by repeat (first | (with_reducible first | exact HB.out | apply below_alloc | apply pw_below_drewN | apply below_drew1) | exact HB.out)) hb); clear HB; have HO148 := n0_; have HB := n1_; clear n0_ n1_; (try clear hb); (try clear hb2); (try clear hk); (try clear hi); (try clear ho0)) | (go_at_call 22; (refine (fit_Choose.calls kj3 _ _ l0 (wrap64 (2 + (wrap64 (Int.tmod (IntKind.u64.wrap (a2)) 60)))) _ _ ([] : List Int) t149 _ ?side1 ?side2 ?side3 ?side4 A12.out).mono ?_); (case side1 => repeat (first | exact (Kd.C_below HR0.out HB.out) | (with_reducible refine Kd.C_alloc ?_ _) | (with_reducible refine Kd.C_drewN ?_ _) | (with_reducible refine Kd.C_drew ?_))); (case side2 => exact HC0.out); (case side3 => exact Kd.C_nil _ _); (case side4 => exact Nat.le_refl _); rintro e w17 ⟨rfl, hb⟩; have n0_ := Aside0.mk (Kd.R_below (by (with_reducible repeat (first | apply Kd.R_alloc | apply Kd.R_drewN | apply Kd.R_drew)); exact HO148.out) hb); have n1_ := Aside0.mk (below_step (by repeat (first | (with_reducible first | exact HB.out | apply below_alloc | apply pw_below_drewN | apply below_drew1) | exact HB.out)) hb); clear HO148; clear HB; have HO148 := n0_; have HB := n1_; clear n0_ n1_; (try clear hb); (try clear hb2); (try clear hk); (try clear hi); obtain ⟨Ao18, co18, eo18⟩ := Kd.R_slice HO148.out; subst eo18) | (go_at_call 21; (with_reducible refine (darninglaw15_awake.calls kj3  t150 _ A15.out).mono ?_); rintro e w19 ⟨rfl, hb⟩; have n0_ := Aside0.mk (Kd.R_below (by (with_reducible repeat (first | apply Kd.R_alloc | apply Kd.R_drewN | apply Kd.R_drew)); exact HO148.out) hb); have n1_ := Aside0.mk (below_step (by repeat (first | (with_reducible first | exact HB.out | apply below_alloc | apply pw_below_drewN | apply below_drew1) | exact HB.out)) hb); clear HO148; clear HB; have HO148 := n0_; have HB := n1_; clear n0_ n1_; (try clear hb); (try clear hb2); (try clear hk); (try clear hi))))
            go_ret
            exact ⟨by first | rfl | (simp [errW_none, errW_some] <;> rfl) | (simp [*, errW_none, errW_some] <;> rfl), by repeat (first | (with_reducible first | exact HB.out | apply below_alloc | apply pw_below_drewN | apply below_drew1) | exact HB.out)⟩
          · rw [if_neg c14] at H
            have c14b0 : (t149 == (-1)) = false := beq_eq_false_iff_ne.mpr c14
            have c14b1 : (t149 != (-1)) = true := bne_iff_ne.mpr c14
            obtain rfl := Option.some.inj H
            go_wp2_with (first | (go_at_call 23; (with_reducible refine (fit_Fits.calls kj3 _ _ l0 (wrap64 (2 + (wrap64 (Int.tmod (IntKind.u64.wrap (a2)) 60)))) t146 _ ?side1 ?side2 A11.out).mono ?_); (case side1 => repeat (first | exact (Kd.C_below HR0.out HB.out) | (with_reducible refine Kd.C_alloc ?_ _) | (with_reducible refine Kd.C_drewN ?_ _) | (with_reducible refine Kd.C_drew ?_))); (case side2 => exact HC0.out); rintro e w20 ⟨v147, rfl, ho0, hb⟩; have n0_ := Aside0.mk (Kd.R_lower ho0 (below_size (by repeat (first | (with_reducible first | exact HB.out | apply below_alloc | apply pw_below_drewN | apply below_drew1) | exact HB.out)))); have n1_ := Aside0.mk (below_step (by repeat (first | (with_reducible first | exact HB.out | apply below_alloc | apply pw_below_drewN | apply below_drew1) | exact HB.out)) hb); clear HB; have HO148 := n0_; have HB := n1_; clear n0_ n1_; (try clear hb); (try clear hb2); (try clear hk); (try clear hi); (try clear ho0)) | (go_at_call 22; (refine (fit_Choose.calls kj3 _ _ l0 (wrap64 (2 + (wrap64 (Int.tmod (IntKind.u64.wrap (a2)) 60)))) _ _ ([] : List Int) t149 _ ?side1 ?side2 ?side3 ?side4 A12.out).mono ?_); (case side1 => repeat (first | exact (Kd.C_below HR0.out HB.out) | (with_reducible refine Kd.C_alloc ?_ _) | (with_reducible refine Kd.C_drewN ?_ _) | (with_reducible refine Kd.C_drew ?_))); (case side2 => exact HC0.out); (case side3 => exact Kd.C_nil _ _); (case side4 => exact Nat.le_refl _); rintro e w21 ⟨rfl, hb⟩; have n0_ := Aside0.mk (Kd.R_below (by (with_reducible repeat (first | apply Kd.R_alloc | apply Kd.R_drewN | apply Kd.R_drew)); exact HO148.out) hb); have n1_ := Aside0.mk (below_step (by repeat (first | (with_reducible first | exact HB.out | apply below_alloc | apply pw_below_drewN | apply below_drew1) | exact HB.out)) hb); clear HO148; clear HB; have HO148 := n0_; have HB := n1_; clear n0_ n1_; (try clear hb); (try clear hb2); (try clear hk); (try clear hi); obtain ⟨Ao22, co22, eo22⟩ := Kd.R_slice HO148.out; subst eo22))
            repeat (go_quiet (first | (go_at_call 23; (with_reducible refine (fit_Fits.calls kj3 _ _ l0 (wrap64 (2 + (wrap64 (Int.tmod (IntKind.u64.wrap (a2)) 60)))) t146 _ ?side1 ?side2 A11.out).mono ?_); (case side1 => repeat (first | exact (Kd.C_below HR0.out HB.out) | (with_reducible refine Kd.C_alloc ?_ _) | (with_reducible refine Kd.C_drewN ?_ _) | (with_reducible refine Kd.C_drew ?_))); (case side2 => exact HC0.out); rintro e w20 ⟨v147, rfl, ho0, hb⟩; have n0_ := Aside0.mk (Kd.R_lower ho0 (below_size (by repeat (first | (with_reducible first | exact HB.out | apply below_alloc | apply pw_below_drewN | apply below_drew1) | exact HB.out)))); have n1_ := Aside0.mk (below_step (by repeat (first | (with_reducible first | exact HB.out | apply below_alloc | apply pw_below_drewN | apply below_drew1) | exact HB.out)) hb); clear HB; have HO148 := n0_; have HB := n1_; clear n0_ n1_; (try clear hb); (try clear hb2); (try clear hk); (try clear hi); (try clear ho0)) | (go_at_call 22; (refine (fit_Choose.calls kj3 _ _ l0 (wrap64 (2 + (wrap64 (Int.tmod (IntKind.u64.wrap (a2)) 60)))) _ _ ([] : List Int) t149 _ ?side1 ?side2 ?side3 ?side4 A12.out).mono ?_); (case side1 => repeat (first | exact (Kd.C_below HR0.out HB.out) | (with_reducible refine Kd.C_alloc ?_ _) | (with_reducible refine Kd.C_drewN ?_ _) | (with_reducible refine Kd.C_drew ?_))); (case side2 => exact HC0.out); (case side3 => exact Kd.C_nil _ _); (case side4 => exact Nat.le_refl _); rintro e w21 ⟨rfl, hb⟩; have n0_ := Aside0.mk (Kd.R_below (by (with_reducible repeat (first | apply Kd.R_alloc | apply Kd.R_drewN | apply Kd.R_drew)); exact HO148.out) hb); have n1_ := Aside0.mk (below_step (by repeat (first | (with_reducible first | exact HB.out | apply below_alloc | apply pw_below_drewN | apply below_drew1) | exact HB.out)) hb); clear HO148; clear HB; have HO148 := n0_; have HB := n1_; clear n0_ n1_; (try clear hb); (try clear hb2); (try clear hk); (try clear hi); obtain ⟨Ao22, co22, eo22⟩ := Kd.R_slice HO148.out; subst eo22)); try go_wp2_with (first | (go_at_call 23; (with_reducible refine (fit_Fits.calls kj3 _ _ l0 (wrap64 (2 + (wrap64 (Int.tmod (IntKind.u64.wrap (a2)) 60)))) t146 _ ?side1 ?side2 A11.out).mono ?_); (case side1 => repeat (first | exact (Kd.C_below HR0.out HB.out) | (with_reducible refine Kd.C_alloc ?_ _) | (with_reducible refine Kd.C_drewN ?_ _) | (with_reducible refine Kd.C_drew ?_))); (case side2 => exact HC0.out); rintro e w20 ⟨v147, rfl, ho0, hb⟩; have n0_ := Aside0.mk (Kd.R_lower ho0 (below_size (by repeat (first | (with_reducible first | exact HB.out | apply below_alloc | apply pw_below_drewN | apply below_drew1) | exact HB.out)))); have n1_ := Aside0.mk (below_step (by repeat (first | (with_reducible first | exact HB.out | apply below_alloc | apply pw_below_drewN | apply below_drew1) | exact HB.out)) hb); clear HB; have HO148 := n0_; have HB := n1_; clear n0_ n1_; (try clear hb); (try clear hb2); (try clear hk); (try clear hi); (try clear ho0)) | (go_at_call 22; (refine (fit_Choose.calls kj3 _ _ l0 (wrap64 (2 + (wrap64 (Int.tmod (IntKind.u64.wrap (a2)) 60)))) _ _ ([] : List Int) t149 _ ?side1 ?side2 ?side3 ?side4 A12.out).mono ?_); (case side1 => repeat (first | exact (Kd.C_below HR0.out HB.out) | (with_reducible refine Kd.C_alloc ?_ _) | (with_reducible refine Kd.C_drewN ?_ _) | (with_reducible refine Kd.C_drew ?_))); (case side2 => exact HC0.out); (case side3 => exact Kd.C_nil _ _); (case side4 => exact Nat.le_refl _); rintro e w21 ⟨rfl, hb⟩; have n0_ := Aside0.mk (Kd.R_below (by (with_reducible repeat (first | apply Kd.R_alloc | apply Kd.R_drewN | apply Kd.R_drew)); exact HO148.out) hb); have n1_ := Aside0.mk (below_step (by repeat (first | (with_reducible first | exact HB.out | apply below_alloc | apply pw_below_drewN | apply below_drew1) | exact HB.out)) hb); clear HO148; clear HB; have HO148 := n0_; have HB := n1_; clear n0_ n1_; (try clear hb); (try clear hb2); (try clear hk); (try clear hi); obtain ⟨Ao22, co22, eo22⟩ := Kd.R_slice HO148.out; subst eo22)))
            go_ret
            exact ⟨by first | rfl | (simp [errW_none, errW_some] <;> rfl) | (simp [*, errW_none, errW_some] <;> rfl), by repeat (first | (with_reducible first | exact HB.out | apply below_alloc | apply pw_below_drewN | apply below_drew1) | exact HB.out)⟩
        · rw [if_neg c13] at H
          have c13b0 : ((t146.length : Int) == 0) = false := beq_eq_false_iff_ne.mpr c13
          have c13b1 : ((t146.length : Int) != 0) = true := bne_iff_ne.mpr c13
          have c13b2 : ¬ (t146 = []) := fun h_ => c13 (by rw [h_]; rfl)
          have HC23 := Aside0.mk H
          clear H
          go_upto_region 8 with (first | (go_at_call 23; (with_reducible refine (fit_Fits.calls kj3 _ _ l0 (wrap64 (2 + (wrap64 (Int.tmod (IntKind.u64.wrap (a2)) 60)))) t146 _ ?side1 ?side2 A11.out).mono ?_); (case side1 => repeat (first | exact (Kd.C_below HR0.out HB.out) | (with_reducible refine Kd.C_alloc ?_ _) | (with_reducible refine Kd.C_drewN ?_ _) | (with_reducible refine Kd.C_drew ?_))); (case side2 => exact HC0.out); rintro e w24 ⟨v147, rfl, ho0, hb⟩; have n0_ := Aside0.mk (Kd.R_lower ho0 (below_size (by repeat (first | (with_reducible first | exact HB.out | apply below_alloc | apply pw_below_drewN | apply below_drew1) | exact HB.out)))); have n1_ := Aside0.mk (below_step (by repeat (first | (with_reducible first | exact HB.out | apply below_alloc | apply pw_below_drewN | apply below_drew1) | exact HB.out)) hb); clear HB; have HO148 := n0_; have HB := n1_; clear n0_ n1_; (try clear hb); (try clear hb2); (try clear hk); (try clear hi); (try clear ho0)) | (go_at_call 22; (refine (fit_Choose.calls kj3 _ _ l0 (wrap64 (2 + (wrap64 (Int.tmod (IntKind.u64.wrap (a2)) 60)))) _ _ ([] : List Int) t149 _ ?side1 ?side2 ?side3 ?side4 A12.out).mono ?_); (case side1 => repeat (first | exact (Kd.C_below HR0.out HB.out) | (with_reducible refine Kd.C_alloc ?_ _) | (with_reducible refine Kd.C_drewN ?_ _) | (with_reducible refine Kd.C_drew ?_))); (case side2 => exact HC0.out); (case side3 => exact Kd.C_nil _ _); (case side4 => exact Nat.le_refl _); rintro e w25 ⟨rfl, hb⟩; have n0_ := Aside0.mk (Kd.R_below (by (with_reducible repeat (first | apply Kd.R_alloc | apply Kd.R_drewN | apply Kd.R_drew)); exact HO148.out) hb); have n1_ := Aside0.mk (below_step (by repeat (first | (with_reducible first | exact HB.out | apply below_alloc | apply pw_below_drewN | apply below_drew1) | exact HB.out)) hb); clear HO148; clear HB; have HO148 := n0_; have HB := n1_; clear n0_ n1_; (try clear hb); (try clear hb2); (try clear hk); (try clear hi); obtain ⟨Ao26, co26, eo26⟩ := Kd.R_slice HO148.out; subst eo26))
          repeat (go_quiet (first | (go_at_call 23; (with_reducible refine (fit_Fits.calls kj3 _ _ l0 (wrap64 (2 + (wrap64 (Int.tmod (IntKind.u64.wrap (a2)) 60)))) t146 _ ?side1 ?side2 A11.out).mono ?_); (case side1 => repeat (first | exact (Kd.C_below HR0.out HB.out) | (with_reducible refine Kd.C_alloc ?_ _) | (with_reducible refine Kd.C_drewN ?_ _) | (with_reducible refine Kd.C_drew ?_))); (case side2 => exact HC0.out); rintro e w24 ⟨v147, rfl, ho0, hb⟩; have n0_ := Aside0.mk (Kd.R_lower ho0 (below_size (by repeat (first | (with_reducible first | exact HB.out | apply below_alloc | apply pw_below_drewN | apply below_drew1) | exact HB.out)))); have n1_ := Aside0.mk (below_step (by repeat (first | (with_reducible first | exact HB.out | apply below_alloc | apply pw_below_drewN | apply below_drew1) | exact HB.out)) hb); clear HB; have HO148 := n0_; have HB := n1_; clear n0_ n1_; (try clear hb); (try clear hb2); (try clear hk); (try clear hi); (try clear ho0)) | (go_at_call 22; (refine (fit_Choose.calls kj3 _ _ l0 (wrap64 (2 + (wrap64 (Int.tmod (IntKind.u64.wrap (a2)) 60)))) _ _ ([] : List Int) t149 _ ?side1 ?side2 ?side3 ?side4 A12.out).mono ?_); (case side1 => repeat (first | exact (Kd.C_below HR0.out HB.out) | (with_reducible refine Kd.C_alloc ?_ _) | (with_reducible refine Kd.C_drewN ?_ _) | (with_reducible refine Kd.C_drew ?_))); (case side2 => exact HC0.out); (case side3 => exact Kd.C_nil _ _); (case side4 => exact Nat.le_refl _); rintro e w25 ⟨rfl, hb⟩; have n0_ := Aside0.mk (Kd.R_below (by (with_reducible repeat (first | apply Kd.R_alloc | apply Kd.R_drewN | apply Kd.R_drew)); exact HO148.out) hb); have n1_ := Aside0.mk (below_step (by repeat (first | (with_reducible first | exact HB.out | apply below_alloc | apply pw_below_drewN | apply below_drew1) | exact HB.out)) hb); clear HO148; clear HB; have HO148 := n0_; have HB := n1_; clear n0_ n1_; (try clear hb); (try clear hb2); (try clear hk); (try clear hi); obtain ⟨Ao26, co26, eo26⟩ := Kd.R_slice HO148.out; subst eo26)); go_upto_region 8 with (first | (go_at_call 23; (with_reducible refine (fit_Fits.calls kj3 _ _ l0 (wrap64 (2 + (wrap64 (Int.tmod (IntKind.u64.wrap (a2)) 60)))) t146 _ ?side1 ?side2 A11.out).mono ?_); (case side1 => repeat (first | exact (Kd.C_below HR0.out HB.out) | (with_reducible refine Kd.C_alloc ?_ _) | (with_reducible refine Kd.C_drewN ?_ _) | (with_reducible refine Kd.C_drew ?_))); (case side2 => exact HC0.out); rintro e w24 ⟨v147, rfl, ho0, hb⟩; have n0_ := Aside0.mk (Kd.R_lower ho0 (below_size (by repeat (first | (with_reducible first | exact HB.out | apply below_alloc | apply pw_below_drewN | apply below_drew1) | exact HB.out)))); have n1_ := Aside0.mk (below_step (by repeat (first | (with_reducible first | exact HB.out | apply below_alloc | apply pw_below_drewN | apply below_drew1) | exact HB.out)) hb); clear HB; have HO148 := n0_; have HB := n1_; clear n0_ n1_; (try clear hb); (try clear hb2); (try clear hk); (try clear hi); (try clear ho0)) | (go_at_call 22; (refine (fit_Choose.calls kj3 _ _ l0 (wrap64 (2 + (wrap64 (Int.tmod (IntKind.u64.wrap (a2)) 60)))) _ _ ([] : List Int) t149 _ ?side1 ?side2 ?side3 ?side4 A12.out).mono ?_); (case side1 => repeat (first | exact (Kd.C_below HR0.out HB.out) | (with_reducible refine Kd.C_alloc ?_ _) | (with_reducible refine Kd.C_drewN ?_ _) | (with_reducible refine Kd.C_drew ?_))); (case side2 => exact HC0.out); (case side3 => exact Kd.C_nil _ _); (case side4 => exact Nat.le_refl _); rintro e w25 ⟨rfl, hb⟩; have n0_ := Aside0.mk (Kd.R_below (by (with_reducible repeat (first | apply Kd.R_alloc | apply Kd.R_drewN | apply Kd.R_drew)); exact HO148.out) hb); have n1_ := Aside0.mk (below_step (by repeat (first | (with_reducible first | exact HB.out | apply below_alloc | apply pw_below_drewN | apply below_drew1) | exact HB.out)) hb); clear HO148; clear HB; have HO148 := n0_; have HB := n1_; clear n0_ n1_; (try clear hb); (try clear hb2); (try clear hk); (try clear hi); obtain ⟨Ao26, co26, eo26⟩ := Kd.R_slice HO148.out; subst eo26)))
          (try simp only [Act.put, List.setIfInBounds_toArray, List.set_cons_zero, List.set_cons_succ])
          go_cut [56] (fun v56 wc => ∃ (kq : Nat) (x56_22 : Bool), v56 = .bool x56_22 ∧ Aside0 (darninglaw15_FitOrder.j1 kq l0 (wrap64 (2 + (wrap64 (Int.tmod (IntKind.u64.wrap (a2)) 60)))) t146 t149 x56_22 = some r) ∧ Aside0 (kq ≤ kj3) ∧ Aside0 (Kd.R (Kd.int .i64) 3 wc w.heap.size (fun _ => True) (.slice Ao26 t146.length co26) t146) ∧ Aside0 (Below w.heap.size w wc))
          case first =>
            have H := HC23.out
            clear HC23
            by_cases c27 : 0 < (t146.length : Int)
            · rw [if_pos c27] at H
              have c27b0 : decide (0 < (t146.length : Int)) = true := decide_eq_true c27
              have c27b1 : decide (0 < t146.length) = true := decide_eq_true (by omega)
              clear c27
              (first | rw [c27b0] | (simp only [i64_w, i32_w]; rw [c27b0]) | skip)
              by_cases c28 : t149 = (rd t146 0)
              · rw [if_pos c28] at H
                have c28b0 : (t149 == (rd t146 0)) = true := beq_iff_eq.mpr c28
                have c28b1 : (t149 != (rd t146 0)) = false := bne_eq_false_iff_eq.mpr c28
                clear c28
                by_cases c29 : t149 < 0
                · rw [if_pos c29] at H
                  have c29b0 : decide (t149 < 0) = true := decide_eq_true c29
                  clear c29
                  have H' := Aside0.mk H
                  clear H
                  have p151 : 0 ≤ (0 : Int) := (by omega)
                  have q151 : 0 < (t146.length : Int) := of_decide_eq_true (by first | (with_reducible assumption) | assumption)
                  obtain ⟨ad151, e151, hx151_0⟩ := Kd.at_int (Kd.R_reads' HO148.out).2.2 0 p151 q151
                  cases e151
                  have qi151 : (0 < t146.length) = True := eq_true (by omega)
                  (try rw [show ((0 : Int)).toNat = 0 from rfl] at hx151_0)
                  (try rw [Addr.add_zero'] at hx151_0)
                  replace p151 := eq_true p151
                  replace q151 := eq_true q151
                  go_wp2
                  repeat (go_quiet (fail); try go_wp2)
                  go_meet
                  case rel => exact ⟨_, (true), (by first | rfl | (simp; done) | (simp [*]; done)), H', ⟨by have := HJ3.out; first | omega | exact Nat.le_refl _⟩, ⟨by (with_reducible repeat (first | apply Kd.R_alloc | apply Kd.R_drewN | apply Kd.R_drew)); exact HO148.out⟩, ⟨by repeat (first | (with_reducible first | exact HB.out | apply below_alloc | apply pw_below_drewN | apply below_drew1) | exact HB.out)⟩⟩
                · rw [if_neg c29] at H
                  have c29b0 : decide (t149 < 0) = false := decide_eq_false c29
                  clear c29
                  have H' := Aside0.mk H
                  clear H
                  have p151 : 0 ≤ (0 : Int) := (by omega)
                  have q151 : 0 < (t146.length : Int) := of_decide_eq_true (by first | (with_reducible assumption) | assumption)
                  obtain ⟨ad151, e151, hx151_0⟩ := Kd.at_int (Kd.R_reads' HO148.out).2.2 0 p151 q151
                  cases e151
                  have qi151 : (0 < t146.length) = True := eq_true (by omega)
                  (try rw [show ((0 : Int)).toNat = 0 from rfl] at hx151_0)
                  (try rw [Addr.add_zero'] at hx151_0)
                  replace p151 := eq_true p151
                  replace q151 := eq_true q151
                  go_wp2
                  repeat (go_quiet (fail); try go_wp2)
                  go_meet
                  case rel => exact ⟨_, (decide (t149 ≥ (l0.length : Int))), (by first | rfl | (simp; done) | (simp [*]; done)), H', ⟨by have := HJ3.out; first | omega | exact Nat.le_refl _⟩, ⟨by (with_reducible repeat (first | apply Kd.R_alloc | apply Kd.R_drewN | apply Kd.R_drew)); exact HO148.out⟩, ⟨by repeat (first | (with_reducible first | exact HB.out | apply below_alloc | apply pw_below_drewN | apply below_drew1) | exact HB.out)⟩⟩
              · rw [if_neg c28] at H
                have c28b0 : (t149 == (rd t146 0)) = false := beq_eq_false_iff_ne.mpr c28
                have c28b1 : (t149 != (rd t146 0)) = true := bne_iff_ne.mpr c28
                have H' := Aside0.mk H
                clear H
                have p151 : 0 ≤ (0 : Int) := (by omega)
                have q151 : 0 < (t146.length : Int) := of_decide_eq_true (by first | (with_reducible assumption) | assumption)
                obtain ⟨ad151, e151, hx151_0⟩ := Kd.at_int (Kd.R_reads' HO148.out).2.2 0 p151 q151
                cases e151
                have qi151 : (0 < t146.length) = True := eq_true (by omega)
                (try rw [show ((0 : Int)).toNat = 0 from rfl] at hx151_0)
                (try rw [Addr.add_zero'] at hx151_0)
                replace p151 := eq_true p151
                replace q151 := eq_true q151
                go_wp2
                repeat (go_quiet (fail); try go_wp2)
                go_meet
                case rel => exact ⟨_, (true), (by first | rfl | (simp; done) | (simp [*]; done)), H', ⟨by have := HJ3.out; first | omega | exact Nat.le_refl _⟩, ⟨by (with_reducible repeat (first | apply Kd.R_alloc | apply Kd.R_drewN | apply Kd.R_drew)); exact HO148.out⟩, ⟨by repeat (first | (with_reducible first | exact HB.out | apply below_alloc | apply pw_below_drewN | apply below_drew1) | exact HB.out)⟩⟩
            · rw [if_neg c27] at H
              exact absurd H (by simp)
          case rest =>
            clear HC23
            try clear c1
            try clear p1
            try clear q1
            try clear hx1
            try clear qi1
            try clear c2
            try clear p2
            try clear c5
            try clear c5b0
            try clear c5b1
            try clear p6
            try clear c7
            try clear c8
            try clear c13
            try clear c13b0
            try clear c13b1
            try clear c13b2
            try clear c14
            try clear c14b0
            try clear c14b1
            try clear p15
            try clear q15
            try clear hx15
            try clear qi15
            try clear c27
            try clear c27b0
            try clear c27b1
            try clear c28
            try clear c28b0
            try clear c28b1
            try clear c29
            try clear c29b0
            try clear hx151_0
            try clear p151
            try clear p2
            try clear q151
            obtain ⟨kq, x56_22, rfl, HA, HJ22, HO_7, HB⟩ := hcut
            cases kq with
            | zero => exact absurd HA.out (by simp [darninglaw15_FitOrder.j1])
            | succ kj22 =>
              have H := HA.out
              clear HA
              simp only [darninglaw15_FitOrder.j1] at H
              by_cases c30 : x56_22 = true
              · subst c30
                have H1 : (some false) = some r := by rw [if_pos rfl] at H; exact H
                clear H
                have H := H1
                clear H1
                obtain rfl := Option.some.inj H
                go_wp2
                repeat (go_quiet (fail); try go_wp2)
                go_ret
                exact ⟨by first | rfl | (simp [errW_none, errW_some] <;> rfl) | (simp [*, errW_none, errW_some] <;> rfl), by repeat (first | (with_reducible first | exact HB.out | apply below_alloc | apply pw_below_drewN | apply below_drew1) | exact HB.out)⟩
              · replace c30 := Bool.eq_false_iff.mpr c30
                subst c30
                have H1 : (if 16 ≤ 35184372088832 then ((some (List.replicate 16 0 : List Int)).bind fun y152 => (if 0 ≤ t149 then (if t149 < (l0.length : Int) then (if 0 ≤ (wrap64 (Int.tdiv ((rd_T35 l0 t149).f0) 32)) then (if (wrap64 (Int.tdiv ((rd_T35 l0 t149).f0) 32)) < (y152.length : Int) then ((fit_Choose.f kj22 l0 (wrap64 (2 + (wrap64 (Int.tmod (IntKind.u64.wrap (a2)) 60)))) (y152.set ((wrap64 (Int.tdiv ((rd_T35 l0 t149).f0) 32)) : Int).toNat (wrap64 ((rd y152 (wrap64 (Int.tdiv ((rd_T35 l0 t149).f0) 32))) + 1)))).bind fun t158 => (darninglaw15_FitOrder.l0 kj22 l0 t149 t158 t146 (t146.length : Int) 0)) else (none)) else (none)) else (none)) else (none))) else (none)) = some r := by rw [if_neg (show ¬ (false = true) by decide)] at H; exact H
                clear H
                have H := H1
                clear H1
                by_cases c31 : 16 ≤ 35184372088832
                · rw [if_pos c31] at H
                  have c31b0 := eq_true c31
                  have c31b1 : decide (16 ≤ 35184372088832) = true := decide_eq_true c31
                  clear c31
                  obtain ⟨y152, hy152⟩ : ∃ y_ : List Int, y_ = (List.replicate 16 0) := ⟨_, rfl⟩
                  replace H : (if 0 ≤ t149 then (if t149 < (l0.length : Int) then (if 0 ≤ (wrap64 (Int.tdiv ((rd_T35 l0 t149).f0) 32)) then (if (wrap64 (Int.tdiv ((rd_T35 l0 t149).f0) 32)) < (y152.length : Int) then ((fit_Choose.f kj22 l0 (wrap64 (2 + (wrap64 (Int.tmod (IntKind.u64.wrap (a2)) 60)))) (y152.set ((wrap64 (Int.tdiv ((rd_T35 l0 t149).f0) 32)) : Int).toNat (wrap64 ((rd y152 (wrap64 (Int.tdiv ((rd_T35 l0 t149).f0) 32))) + 1)))).bind fun t158 => (darninglaw15_FitOrder.l0 kj22 l0 t149 t158 t146 (t146.length : Int) 0)) else (none)) else (none)) else (none)) else (none)) = some r := by first | (rw [hy152]; with_reducible exact H) | (have H2_ := (Option.bind_some _ _).symm.trans H; rw [hy152]; with_reducible exact H2_) | (have H2_ := (Option.bind_some _ _).symm.trans H; with_reducible exact H2_) | with_reducible exact H | (rw [hy152]; exact H) | exact H
                  have Ny152 := Aside0.mk hy152
                  clear hy152
                  by_cases c32 : 0 ≤ t149
                  · rw [if_pos c32] at H
                    have c32b0 : decide (0 ≤ t149) = true := decide_eq_true c32
                    clear c32
                    by_cases c33 : t149 < (l0.length : Int)
                    · rw [if_pos c33] at H
                      have c33b0 : decide (t149 < (l0.length : Int)) = true := decide_eq_true c33
                      clear c33
                      obtain ⟨ji34, hji34⟩ : ∃ j_ : Int, (wrap64 (Int.tdiv ((rd_T35 l0 t149).f0) 32)) = j_ := ⟨_, rfl⟩
                      replace H : (if 0 ≤ (ji34) then (if (ji34) < (y152.length : Int) then ((fit_Choose.f kj22 l0 (wrap64 (2 + (wrap64 (Int.tmod (IntKind.u64.wrap (a2)) 60)))) (y152.set ((ji34) : Int).toNat (wrap64 ((rd y152 (ji34)) + 1)))).bind fun t158 => (darninglaw15_FitOrder.l0 kj22 l0 t149 t158 t146 (t146.length : Int) 0)) else (none)) else (none)) = some r := by first | (rw [hji34] at H; exact H) | (simp only [hji34] at H ⊢; exact H)
                      have hji34w : (IntKind.i64.wrap (Int.tdiv ((rd_T35 l0 t149).f0) 32)) = ji34 := (i64_w _).trans hji34
                      by_cases c35 : 0 ≤ (ji34)
                      · rw [if_pos c35] at H
                        have c35b0 : decide (0 ≤ (ji34)) = true := decide_eq_true c35
                        clear c35
                        by_cases c36 : (ji34) < (y152.length : Int)
                        · rw [if_pos c36] at H
                          have c36b0 : decide ((ji34) < (y152.length : Int)) = true := decide_eq_true c36
                          clear c36
                          obtain ⟨y157, hy157⟩ : ∃ y_ : List Int, y_ = (y152.set ((ji34) : Int).toNat (wrap64 ((rd y152 (ji34)) + 1))) := ⟨_, rfl⟩
                          replace H : ((fit_Choose.f kj22 l0 (wrap64 (2 + (wrap64 (Int.tmod (IntKind.u64.wrap (a2)) 60)))) y157).bind fun t158 => (darninglaw15_FitOrder.l0 kj22 l0 t149 t158 t146 (t146.length : Int) 0)) = some r := by first | (rw [hy157]; with_reducible exact H) | (have H2_ := (Option.bind_some _ _).symm.trans H; rw [hy157]; with_reducible exact H2_) | (have H2_ := (Option.bind_some _ _).symm.trans H; with_reducible exact H2_) | with_reducible exact H | (rw [hy157]; exact H) | exact H
                          have Ny157 := Aside0.mk hy157
                          clear hy157
                          replace H := Option.bind_eq_some_iff.mp H
                          obtain ⟨t158, A380, H⟩ := H
                          replace H : (darninglaw15_FitOrder.l0 kj22 l0 t149 t158 t146 (t146.length : Int) 0) = some r := H
                          have A38 := Aside0.mk A380
                          clear A380
                          have H' := Aside0.mk H
                          clear H
                          go_wp2_with (first | ((with_reducible refine gate_dst (N := 57) rfl ?_); (try (refine gate_guard (by rfl) ?_; dsimp only)); refine Kd.R_make (Kd.int .i64) _ 3 rfl (N := 57) rfl 32 _ _ rfl 16 rfl rfl Try.underlying32 (.int .i64 0) 8 info3 rfl (by decide) (by omega) 0 (ok := fun _ => True) (okp := fun _ => True) rfl (fun _ hk => hk) trivial (by omega) (by omega) (Below.refl _ _) (Nat.le_refl _) ?_; intro v153 w39 ho40 hb hg_ hnew_; clear hg_ hnew_; (first | rw [← Ny152.out] at ho40 | (simp only [Int.reduceToNat] at ho40; rw [← Ny152.out] at ho40)); have n0_ := Aside0.mk (Kd.R_elder' (by (with_reducible repeat (first | apply Kd.R_alloc | apply Kd.R_drewN | apply Kd.R_drew)); exact HO_7.out) (Kd.R_base ho40) hb); have n1_ := Aside0.mk (Kd.R_lower (Kd.R_new' ho40 (Kd.R_lt (by (with_reducible repeat (first | apply Kd.R_alloc | apply Kd.R_drewN | apply Kd.R_drew)); exact HO_7.out))) (below_size (by repeat (first | (with_reducible first | exact HB.out | apply below_alloc | apply pw_below_drewN | apply below_drew1) | exact HB.out)))); have n2_ := Aside0.mk (below_step (by repeat (first | (with_reducible first | exact HB.out | apply below_alloc | apply pw_below_drewN | apply below_drew1) | exact HB.out)) hb); clear HO_7; clear HB; have HO_7 := n0_; have HO154 := n1_; have HB := n2_; clear n0_ n1_ n2_; clear hb ho40; have p155 : 0 ≤ (t149 : Int) := of_decide_eq_true (by first | (with_reducible assumption) | assumption); have q155 : t149 < (l0.length : Int) := of_decide_eq_true (by first | (with_reducible assumption) | assumption); obtain ⟨ad155, e155, hx155_0, hx155_1, hx155_2⟩ := at_T35 HR0.out t149 p155 q155; cases e155; replace hx155_0 := (HB.out.cell (World.block_lt_of_cell? w _ hx155_0)).trans hx155_0; replace hx155_1 := (HB.out.cell (World.block_lt_of_cell? w _ hx155_1)).trans hx155_1; replace hx155_2 := (HB.out.cell (World.block_lt_of_cell? w _ hx155_2)).trans hx155_2; replace p155 := eq_true p155; replace q155 := eq_true q155; obtain ⟨Ao41, co41, eo41⟩ := Kd.R_slice HO154.out; subst eo41; have p156 : 0 ≤ ((ji34) : Int) := of_decide_eq_true (by first | (with_reducible assumption) | assumption); have q156 : (ji34) < (y152.length : Int) := of_decide_eq_true (by first | (with_reducible assumption) | assumption); obtain ⟨ad156, e156, hx156_0⟩ := Kd.at_int (Kd.R_reads' HO154.out).2.2 (ji34) p156 q156; cases e156; replace p156 := eq_true p156; replace q156 := eq_true q156; have p37 : 0 ≤ ((ji34) : Int) := of_decide_eq_true (by first | (with_reducible assumption) | assumption); have q37 : ((ji34) : Int) < ((y152.length : Int) : Int) := of_decide_eq_true (by first | (with_reducible assumption) | assumption); obtain ⟨go37, co37, eo37, gb37, gl37, cl37, HG37⟩ := Kd.R_form HO154.out (by omega); (first | cases eo37 | (injection eo37 with ea_ en_ ec_; (first | subst ea_ | (injection ea_ with ea_; subst ea_)); subst ec_; clear en_)); have GB37 := Aside0.mk gb37; have GG37 := Aside0.mk HG37; clear gb37 gl37 HG37; (first | simp only [add_plain] at hx156_0 | skip); obtain ⟨hx37_0, hf37_0⟩ := Kd.R_celln 0 HO154.out ((ji34) : Int) p37 q37; replace p37 := eq_true p37; replace q37 := eq_true q37; have n_ := Aside0.mk (Kd.R_mono (ok' := (fun k_ => some k_ ≠ (.slice Ao26 t146.length co26 : Value).ownBlock)) HO154.out (fun k_ hk => hk.2)); clear HO154; have HO154 := n_; clear n_; obtain ⟨hy42_, hz42_⟩ := Kd.R_celln 0 HO154.out ((ji34) : Int) (of_decide_eq_true (by first | (with_reducible assumption) | assumption)) (of_decide_eq_true (by first | (with_reducible assumption) | assumption)); have HP42 := Kd.R_putg HO154.out ((ji34) : Int) (wrap64 ((rd y152 (ji34)) + 1))) | ((with_reducible refine gate_store (t := 3) (p := 68) rfl ?_); (try (rw [drewN_self w39]; generalize hq_ : World.drewN w39 _ = w39; have n0_ := Aside0.mk (Kd.R_at hq_ HO_7.out); have n1_ := Aside0.mk (Kd.R_at hq_ HO154.out); have n2_ := Aside0.mk (below_at hq_ HB.out); clear hq_ HO_7 HO154 HB; have HO_7 := n0_; have HO154 := n1_; have HB := n2_; clear n0_ n1_ n2_; (try (have n_ := Aside0.mk (Kd.R_mono (ok' := (fun k_ => some k_ ≠ (.slice Ao26 t146.length co26 : Value).ownBlock)) HO154.out (fun k_ hk => hk.2)); clear HO154; have HO154 := n_; clear n_)); (try (obtain ⟨hy42_, hz42_⟩ := Kd.R_celln 0 HO154.out ((ji34) : Int) (of_decide_eq_true (by first | (with_reducible assumption) | assumption)) (of_decide_eq_true (by first | (with_reducible assumption) | assumption)))); (try (have HP42 := Kd.R_putg HO154.out ((ji34) : Int) (wrap64 ((rd y152 (ji34)) + 1)))))); refine store_event (t := 3) (p := 68) (v := ?vo_w43) (w1 := (w39.setCell ⟨go37, ((ji34) : Int).toNat, none⟩ (.int .i64 (wrap64 ((rd y152 (ji34)) + 1))))) ?hg ?ho ?hn ?hr ?_; (case ho => rfl); (case hg => rfl); (case hn => rfl); (case hr => first | (go_simp; done) | (go_simp; rfl)); intro w43 hw; have hg : w39.grownBy w43 (some go37) := (by rw [hw]; exact HP42.2); have hp_ : Kd.R (Kd.int .i64) 3 w43 w.heap.size (fun k_ => some k_ ≠ (.slice Ao26 t146.length co26 : Value).ownBlock) (.slice (some ⟨go37, 0, none⟩) y152.length co41) y157 := (by rw [hw, Ny157.out]; exact HP42.1); clear HP42; have n0_ := Aside0.mk (Kd.R_after (v := (.slice (some ⟨go37, 0, none⟩) y152.length co41)) (v1 := (.slice (some ⟨go37, 0, none⟩) y152.length co41)) (ok := (fun _ => True)) (by (with_reducible repeat (first | apply Kd.R_alloc | apply Kd.R_drewN | apply Kd.R_drew)); exact HO_7.out) hg (.inl rfl)); have n1_ := Aside0.mk (hp_); have n2_ := Aside0.mk ((by rw [hw]; exact below_set (HB.out) GB37.out : Below w.heap.size w w43)); clear HO_7; clear HO154; clear HB; have HO_7 := n0_; have HO154 := n1_; have HB := n2_; clear n0_ n1_ n2_; clear hg hw hp_) | (go_at_call 22; refine calls_of_args (args' := #[.slice (some ad155) l0.length c0, .int .i64 (wrap64 (2 + (wrap64 (Int.tmod (IntKind.u64.wrap (a2)) 60)))), .slice (some ⟨go37, 0, none⟩) y157.length co41]) (by first | (rw [show y157.length = y152.length from (Kd.R_reads' HO154.out).1.symm] <;> rfl) | rfl) ?_; (with_reducible refine (fit_Choose.calls kj22 _ _ l0 (wrap64 (2 + (wrap64 (Int.tmod (IntKind.u64.wrap (a2)) 60)))) _ _ y157 t158 _ ?side1 ?side2 ?side3 ?side4 A38.out).mono ?_); (case side1 => repeat (first | exact (Kd.C_below HR0.out HB.out) | (with_reducible refine Kd.C_alloc ?_ _) | (with_reducible refine Kd.C_drewN ?_ _) | (with_reducible refine Kd.C_drew ?_))); (case side2 => exact HC0.out); (case side3 => repeat (first | exact (Kd.R_reads' HO154.out).2.2 | (with_reducible refine Kd.C_alloc ?_ _) | (with_reducible refine Kd.C_drewN ?_ _) | (with_reducible refine Kd.C_drew ?_))); (case side4 => rw [show y157.length = y152.length from (Kd.R_reads' HO154.out).1.symm]; exact (Kd.R_reads' HO154.out).2.1); rintro e w44 ⟨rfl, hb⟩; have n0_ := Aside0.mk (Kd.R_below (by (with_reducible repeat (first | apply Kd.R_alloc | apply Kd.R_drewN | apply Kd.R_drew)); exact HO_7.out) hb); have n1_ := Aside0.mk (Kd.R_below (by (with_reducible repeat (first | apply Kd.R_alloc | apply Kd.R_drewN | apply Kd.R_drew)); exact HO154.out) hb); have n2_ := Aside0.mk (below_step (by repeat (first | (with_reducible first | exact HB.out | apply below_alloc | apply pw_below_drewN | apply below_drew1) | exact HB.out)) hb); clear HO_7; clear HO154; clear HB; have HO_7 := n0_; have HO154 := n1_; have HB := n2_; clear n0_ n1_ n2_; (try clear hb); (try clear hb2); (try clear hk); (try clear hi)))
                          repeat (go_quiet (first | ((with_reducible refine gate_dst (N := 57) rfl ?_); (try (refine gate_guard (by rfl) ?_; dsimp only)); refine Kd.R_make (Kd.int .i64) _ 3 rfl (N := 57) rfl 32 _ _ rfl 16 rfl rfl Try.underlying32 (.int .i64 0) 8 info3 rfl (by decide) (by omega) 0 (ok := fun _ => True) (okp := fun _ => True) rfl (fun _ hk => hk) trivial (by omega) (by omega) (Below.refl _ _) (Nat.le_refl _) ?_; intro v153 w39 ho40 hb hg_ hnew_; clear hg_ hnew_; (first | rw [← Ny152.out] at ho40 | (simp only [Int.reduceToNat] at ho40; rw [← Ny152.out] at ho40)); have n0_ := Aside0.mk (Kd.R_elder' (by (with_reducible repeat (first | apply Kd.R_alloc | apply Kd.R_drewN | apply Kd.R_drew)); exact HO_7.out) (Kd.R_base ho40) hb); have n1_ := Aside0.mk (Kd.R_lower (Kd.R_new' ho40 (Kd.R_lt (by (with_reducible repeat (first | apply Kd.R_alloc | apply Kd.R_drewN | apply Kd.R_drew)); exact HO_7.out))) (below_size (by repeat (first | (with_reducible first | exact HB.out | apply below_alloc | apply pw_below_drewN | apply below_drew1) | exact HB.out)))); have n2_ := Aside0.mk (below_step (by repeat (first | (with_reducible first | exact HB.out | apply below_alloc | apply pw_below_drewN | apply below_drew1) | exact HB.out)) hb); clear HO_7; clear HB; have HO_7 := n0_; have HO154 := n1_; have HB := n2_; clear n0_ n1_ n2_; clear hb ho40; have p155 : 0 ≤ (t149 : Int) := of_decide_eq_true (by first | (with_reducible assumption) | assumption); have q155 : t149 < (l0.length : Int) := of_decide_eq_true (by first | (with_reducible assumption) | assumption); obtain ⟨ad155, e155, hx155_0, hx155_1, hx155_2⟩ := at_T35 HR0.out t149 p155 q155; cases e155; replace hx155_0 := (HB.out.cell (World.block_lt_of_cell? w _ hx155_0)).trans hx155_0; replace hx155_1 := (HB.out.cell (World.block_lt_of_cell? w _ hx155_1)).trans hx155_1; replace hx155_2 := (HB.out.cell (World.block_lt_of_cell? w _ hx155_2)).trans hx155_2; replace p155 := eq_true p155; replace q155 := eq_true q155; obtain ⟨Ao41, co41, eo41⟩ := Kd.R_slice HO154.out; subst eo41; have p156 : 0 ≤ ((ji34) : Int) := of_decide_eq_true (by first | (with_reducible assumption) | assumption); have q156 : (ji34) < (y152.length : Int) := of_decide_eq_true (by first | (with_reducible assumption) | assumption); obtain ⟨ad156, e156, hx156_0⟩ := Kd.at_int (Kd.R_reads' HO154.out).2.2 (ji34) p156 q156; cases e156; replace p156 := eq_true p156; replace q156 := eq_true q156; have p37 : 0 ≤ ((ji34) : Int) := of_decide_eq_true (by first | (with_reducible assumption) | assumption); have q37 : ((ji34) : Int) < ((y152.length : Int) : Int) := of_decide_eq_true (by first | (with_reducible assumption) | assumption); obtain ⟨go37, co37, eo37, gb37, gl37, cl37, HG37⟩ := Kd.R_form HO154.out (by omega); (first | cases eo37 | (injection eo37 with ea_ en_ ec_; (first | subst ea_ | (injection ea_ with ea_; subst ea_)); subst ec_; clear en_)); have GB37 := Aside0.mk gb37; have GG37 := Aside0.mk HG37; clear gb37 gl37 HG37; (first | simp only [add_plain] at hx156_0 | skip); obtain ⟨hx37_0, hf37_0⟩ := Kd.R_celln 0 HO154.out ((ji34) : Int) p37 q37; replace p37 := eq_true p37; replace q37 := eq_true q37; have n_ := Aside0.mk (Kd.R_mono (ok' := (fun k_ => some k_ ≠ (.slice Ao26 t146.length co26 : Value).ownBlock)) HO154.out (fun k_ hk => hk.2)); clear HO154; have HO154 := n_; clear n_; obtain ⟨hy42_, hz42_⟩ := Kd.R_celln 0 HO154.out ((ji34) : Int) (of_decide_eq_true (by first | (with_reducible assumption) | assumption)) (of_decide_eq_true (by first | (with_reducible assumption) | assumption)); have HP42 := Kd.R_putg HO154.out ((ji34) : Int) (wrap64 ((rd y152 (ji34)) + 1))) | ((with_reducible refine gate_store (t := 3) (p := 68) rfl ?_); (try (rw [drewN_self w39]; generalize hq_ : World.drewN w39 _ = w39; have n0_ := Aside0.mk (Kd.R_at hq_ HO_7.out); have n1_ := Aside0.mk (Kd.R_at hq_ HO154.out); have n2_ := Aside0.mk (below_at hq_ HB.out); clear hq_ HO_7 HO154 HB; have HO_7 := n0_; have HO154 := n1_; have HB := n2_; clear n0_ n1_ n2_; (try (have n_ := Aside0.mk (Kd.R_mono (ok' := (fun k_ => some k_ ≠ (.slice Ao26 t146.length co26 : Value).ownBlock)) HO154.out (fun k_ hk => hk.2)); clear HO154; have HO154 := n_; clear n_)); (try (obtain ⟨hy42_, hz42_⟩ := Kd.R_celln 0 HO154.out ((ji34) : Int) (of_decide_eq_true (by first | (with_reducible assumption) | assumption)) (of_decide_eq_true (by first | (with_reducible assumption) | assumption)))); (try (have HP42 := Kd.R_putg HO154.out ((ji34) : Int) (wrap64 ((rd y152 (ji34)) + 1)))))); refine store_event (t := 3) (p := 68) (v := ?vo_w43) (w1 := (w39.setCell ⟨go37, ((ji34) : Int).toNat, none⟩ (.int .i64 (wrap64 ((rd y152 (ji34)) + 1))))) ?hg ?ho ?hn ?hr ?_; (case ho => rfl); (case hg => rfl); (case hn => rfl); (case hr => first | (go_simp; done) | (go_simp; rfl)); intro w43 hw; have hg : w39.grownBy w43 (some go37) := (by rw [hw]; exact HP42.2); have hp_ : Kd.R (Kd.int .i64) 3 w43 w.heap.size (fun k_ => some k_ ≠ (.slice Ao26 t146.length co26 : Value).ownBlock) (.slice (some ⟨go37, 0, none⟩) y152.length co41) y157 := (by rw [hw, Ny157.out]; exact HP42.1); clear HP42; have n0_ := Aside0.mk (Kd.R_after (v := (.slice (some ⟨go37, 0, none⟩) y152.length co41)) (v1 := (.slice (some ⟨go37, 0, none⟩) y152.length co41)) (ok := (fun _ => True)) (by (with_reducible repeat (first | apply Kd.R_alloc | apply Kd.R_drewN | apply Kd.R_drew)); exact HO_7.out) hg (.inl rfl)); have n1_ := Aside0.mk (hp_); have n2_ := Aside0.mk ((by rw [hw]; exact below_set (HB.out) GB37.out : Below w.heap.size w w43)); clear HO_7; clear HO154; clear HB; have HO_7 := n0_; have HO154 := n1_; have HB := n2_; clear n0_ n1_ n2_; clear hg hw hp_) | (go_at_call 22; refine calls_of_args (args' := #[.slice (some ad155) l0.length c0, .int .i64 (wrap64 (2 + (wrap64 (Int.tmod (IntKind.u64.wrap (a2)) 60)))), .slice (some ⟨go37, 0, none⟩) y157.length co41]) (by first | (rw [show y157.length = y152.length from (Kd.R_reads' HO154.out).1.symm] <;> rfl) | rfl) ?_; (with_reducible refine (fit_Choose.calls kj22 _ _ l0 (wrap64 (2 + (wrap64 (Int.tmod (IntKind.u64.wrap (a2)) 60)))) _ _ y157 t158 _ ?side1 ?side2 ?side3 ?side4 A38.out).mono ?_); (case side1 => repeat (first | exact (Kd.C_below HR0.out HB.out) | (with_reducible refine Kd.C_alloc ?_ _) | (with_reducible refine Kd.C_drewN ?_ _) | (with_reducible refine Kd.C_drew ?_))); (case side2 => exact HC0.out); (case side3 => repeat (first | exact (Kd.R_reads' HO154.out).2.2 | (with_reducible refine Kd.C_alloc ?_ _) | (with_reducible refine Kd.C_drewN ?_ _) | (with_reducible refine Kd.C_drew ?_))); (case side4 => rw [show y157.length = y152.length from (Kd.R_reads' HO154.out).1.symm]; exact (Kd.R_reads' HO154.out).2.1); rintro e w44 ⟨rfl, hb⟩; have n0_ := Aside0.mk (Kd.R_below (by (with_reducible repeat (first | apply Kd.R_alloc | apply Kd.R_drewN | apply Kd.R_drew)); exact HO_7.out) hb); have n1_ := Aside0.mk (Kd.R_below (by (with_reducible repeat (first | apply Kd.R_alloc | apply Kd.R_drewN | apply Kd.R_drew)); exact HO154.out) hb); have n2_ := Aside0.mk (below_step (by repeat (first | (with_reducible first | exact HB.out | apply below_alloc | apply pw_below_drewN | apply below_drew1) | exact HB.out)) hb); clear HO_7; clear HO154; clear HB; have HO_7 := n0_; have HO154 := n1_; have HB := n2_; clear n0_ n1_ n2_; (try clear hb); (try clear hb2); (try clear hk); (try clear hi))); try go_wp2_with (first | ((with_reducible refine gate_dst (N := 57) rfl ?_); (try (refine gate_guard (by rfl) ?_; dsimp only)); refine Kd.R_make (Kd.int .i64) _ 3 rfl (N := 57) rfl 32 _ _ rfl 16 rfl rfl Try.underlying32 (.int .i64 0) 8 info3 rfl (by decide) (by omega) 0 (ok := fun _ => True) (okp := fun _ => True) rfl (fun _ hk => hk) trivial (by omega) (by omega) (Below.refl _ _) (Nat.le_refl _) ?_; intro v153 w39 ho40 hb hg_ hnew_; clear hg_ hnew_; (first | rw [← Ny152.out] at ho40 | (simp only [Int.reduceToNat] at ho40; rw [← Ny152.out] at ho40)); have n0_ := Aside0.mk (Kd.R_elder' (by (with_reducible repeat (first | apply Kd.R_alloc | apply Kd.R_drewN | apply Kd.R_drew)); exact HO_7.out) (Kd.R_base ho40) hb); have n1_ := Aside0.mk (Kd.R_lower (Kd.R_new' ho40 (Kd.R_lt (by (with_reducible repeat (first | apply Kd.R_alloc | apply Kd.R_drewN | apply Kd.R_drew)); exact HO_7.out))) (below_size (by repeat (first | (with_reducible first | exact HB.out | apply below_alloc | apply pw_below_drewN | apply below_drew1) | exact HB.out)))); have n2_ := Aside0.mk (below_step (by repeat (first | (with_reducible first | exact HB.out | apply below_alloc | apply pw_below_drewN | apply below_drew1) | exact HB.out)) hb); clear HO_7; clear HB; have HO_7 := n0_; have HO154 := n1_; have HB := n2_; clear n0_ n1_ n2_; clear hb ho40; have p155 : 0 ≤ (t149 : Int) := of_decide_eq_true (by first | (with_reducible assumption) | assumption); have q155 : t149 < (l0.length : Int) := of_decide_eq_true (by first | (with_reducible assumption) | assumption); obtain ⟨ad155, e155, hx155_0, hx155_1, hx155_2⟩ := at_T35 HR0.out t149 p155 q155; cases e155; replace hx155_0 := (HB.out.cell (World.block_lt_of_cell? w _ hx155_0)).trans hx155_0; replace hx155_1 := (HB.out.cell (World.block_lt_of_cell? w _ hx155_1)).trans hx155_1; replace hx155_2 := (HB.out.cell (World.block_lt_of_cell? w _ hx155_2)).trans hx155_2; replace p155 := eq_true p155; replace q155 := eq_true q155; obtain ⟨Ao41, co41, eo41⟩ := Kd.R_slice HO154.out; subst eo41; have p156 : 0 ≤ ((ji34) : Int) := of_decide_eq_true (by first | (with_reducible assumption) | assumption); have q156 : (ji34) < (y152.length : Int) := of_decide_eq_true (by first | (with_reducible assumption) | assumption); obtain ⟨ad156, e156, hx156_0⟩ := Kd.at_int (Kd.R_reads' HO154.out).2.2 (ji34) p156 q156; cases e156; replace p156 := eq_true p156; replace q156 := eq_true q156; have p37 : 0 ≤ ((ji34) : Int) := of_decide_eq_true (by first | (with_reducible assumption) | assumption); have q37 : ((ji34) : Int) < ((y152.length : Int) : Int) := of_decide_eq_true (by first | (with_reducible assumption) | assumption); obtain ⟨go37, co37, eo37, gb37, gl37, cl37, HG37⟩ := Kd.R_form HO154.out (by omega); (first | cases eo37 | (injection eo37 with ea_ en_ ec_; (first | subst ea_ | (injection ea_ with ea_; subst ea_)); subst ec_; clear en_)); have GB37 := Aside0.mk gb37; have GG37 := Aside0.mk HG37; clear gb37 gl37 HG37; (first | simp only [add_plain] at hx156_0 | skip); obtain ⟨hx37_0, hf37_0⟩ := Kd.R_celln 0 HO154.out ((ji34) : Int) p37 q37; replace p37 := eq_true p37; replace q37 := eq_true q37; have n_ := Aside0.mk (Kd.R_mono (ok' := (fun k_ => some k_ ≠ (.slice Ao26 t146.length co26 : Value).ownBlock)) HO154.out (fun k_ hk => hk.2)); clear HO154; have HO154 := n_; clear n_; obtain ⟨hy42_, hz42_⟩ := Kd.R_celln 0 HO154.out ((ji34) : Int) (of_decide_eq_true (by first | (with_reducible assumption) | assumption)) (of_decide_eq_true (by first | (with_reducible assumption) | assumption)); have HP42 := Kd.R_putg HO154.out ((ji34) : Int) (wrap64 ((rd y152 (ji34)) + 1))) | ((with_reducible refine gate_store (t := 3) (p := 68) rfl ?_); (try (rw [drewN_self w39]; generalize hq_ : World.drewN w39 _ = w39; have n0_ := Aside0.mk (Kd.R_at hq_ HO_7.out); have n1_ := Aside0.mk (Kd.R_at hq_ HO154.out); have n2_ := Aside0.mk (below_at hq_ HB.out); clear hq_ HO_7 HO154 HB; have HO_7 := n0_; have HO154 := n1_; have HB := n2_; clear n0_ n1_ n2_; (try (have n_ := Aside0.mk (Kd.R_mono (ok' := (fun k_ => some k_ ≠ (.slice Ao26 t146.length co26 : Value).ownBlock)) HO154.out (fun k_ hk => hk.2)); clear HO154; have HO154 := n_; clear n_)); (try (obtain ⟨hy42_, hz42_⟩ := Kd.R_celln 0 HO154.out ((ji34) : Int) (of_decide_eq_true (by first | (with_reducible assumption) | assumption)) (of_decide_eq_true (by first | (with_reducible assumption) | assumption)))); (try (have HP42 := Kd.R_putg HO154.out ((ji34) : Int) (wrap64 ((rd y152 (ji34)) + 1)))))); refine store_event (t := 3) (p := 68) (v := ?vo_w43) (w1 := (w39.setCell ⟨go37, ((ji34) : Int).toNat, none⟩ (.int .i64 (wrap64 ((rd y152 (ji34)) + 1))))) ?hg ?ho ?hn ?hr ?_; (case ho => rfl); (case hg => rfl); (case hn => rfl); (case hr => first | (go_simp; done) | (go_simp; rfl)); intro w43 hw; have hg : w39.grownBy w43 (some go37) := (by rw [hw]; exact HP42.2); have hp_ : Kd.R (Kd.int .i64) 3 w43 w.heap.size (fun k_ => some k_ ≠ (.slice Ao26 t146.length co26 : Value).ownBlock) (.slice (some ⟨go37, 0, none⟩) y152.length co41) y157 := (by rw [hw, Ny157.out]; exact HP42.1); clear HP42; have n0_ := Aside0.mk (Kd.R_after (v := (.slice (some ⟨go37, 0, none⟩) y152.length co41)) (v1 := (.slice (some ⟨go37, 0, none⟩) y152.length co41)) (ok := (fun _ => True)) (by (with_reducible repeat (first | apply Kd.R_alloc | apply Kd.R_drewN | apply Kd.R_drew)); exact HO_7.out) hg (.inl rfl)); have n1_ := Aside0.mk (hp_); have n2_ := Aside0.mk ((by rw [hw]; exact below_set (HB.out) GB37.out : Below w.heap.size w w43)); clear HO_7; clear HO154; clear HB; have HO_7 := n0_; have HO154 := n1_; have HB := n2_; clear n0_ n1_ n2_; clear hg hw hp_) | (go_at_call 22; refine calls_of_args (args' := #[.slice (some ad155) l0.length c0, .int .i64 (wrap64 (2 + (wrap64 (Int.tmod (IntKind.u64.wrap (a2)) 60)))), .slice (some ⟨go37, 0, none⟩) y157.length co41]) (by first | (rw [show y157.length = y152.length from (Kd.R_reads' HO154.out).1.symm] <;> rfl) | rfl) ?_; (with_reducible refine (fit_Choose.calls kj22 _ _ l0 (wrap64 (2 + (wrap64 (Int.tmod (IntKind.u64.wrap (a2)) 60)))) _ _ y157 t158 _ ?side1 ?side2 ?side3 ?side4 A38.out).mono ?_); (case side1 => repeat (first | exact (Kd.C_below HR0.out HB.out) | (with_reducible refine Kd.C_alloc ?_ _) | (with_reducible refine Kd.C_drewN ?_ _) | (with_reducible refine Kd.C_drew ?_))); (case side2 => exact HC0.out); (case side3 => repeat (first | exact (Kd.R_reads' HO154.out).2.2 | (with_reducible refine Kd.C_alloc ?_ _) | (with_reducible refine Kd.C_drewN ?_ _) | (with_reducible refine Kd.C_drew ?_))); (case side4 => rw [show y157.length = y152.length from (Kd.R_reads' HO154.out).1.symm]; exact (Kd.R_reads' HO154.out).2.1); rintro e w44 ⟨rfl, hb⟩; have n0_ := Aside0.mk (Kd.R_below (by (with_reducible repeat (first | apply Kd.R_alloc | apply Kd.R_drewN | apply Kd.R_drew)); exact HO_7.out) hb); have n1_ := Aside0.mk (Kd.R_below (by (with_reducible repeat (first | apply Kd.R_alloc | apply Kd.R_drewN | apply Kd.R_drew)); exact HO154.out) hb); have n2_ := Aside0.mk (below_step (by repeat (first | (with_reducible first | exact HB.out | apply below_alloc | apply pw_below_drewN | apply below_drew1) | exact HB.out)) hb); clear HO_7; clear HO154; clear HB; have HO_7 := n0_; have HO154 := n1_; have HB := n2_; clear n0_ n1_ n2_; (try clear hb); (try clear hb2); (try clear hk); (try clear hi))))
                          go_loopg [75] kj22 (fun kq v75 w' => ∃ (x75_3 : Int), v75 = .int .i64 x75_3 ∧ Aside0 (darninglaw15_FitOrder.l0 kq l0 t149 t158 t146 (t146.length : Int) x75_3 = some r) ∧ Aside0 (kq ≤ kj22) ∧ Aside0 (Kd.R (Kd.int .i64) 3 w' w.heap.size (fun _ => True) (.slice Ao26 t146.length co26) t146) ∧ Aside0 (Below w.heap.size w w'))
                          case atStart => exact ⟨(0), (by first | rfl | (simp; done) | (simp [*]; done)), H', ⟨Nat.le_refl _⟩, ⟨by (with_reducible repeat (first | apply Kd.R_alloc | apply Kd.R_drewN | apply Kd.R_drew)); exact Kd.R_mono HO_7.out (fun _ hk => trivial)⟩, ⟨by repeat (first | (with_reducible first | exact HB.out | apply below_alloc | apply pw_below_drewN | apply below_drew1) | exact HB.out)⟩⟩
                          case round =>
                            clear H'
                            try clear c1
                            try clear p1
                            try clear q1
                            try clear hx1
                            try clear qi1
                            try clear c2
                            try clear p2
                            try clear c3
                            try clear p3
                            try clear q3
                            try clear hx3
                            try clear hf3
                            try clear c5
                            try clear c5b0
                            try clear c5b1
                            try clear p6
                            try clear c7
                            try clear c8
                            try clear c13
                            try clear c13b0
                            try clear c13b1
                            try clear c13b2
                            try clear c14
                            try clear c14b0
                            try clear c14b1
                            try clear p15
                            try clear q15
                            try clear hx15
                            try clear qi15
                            try clear c27
                            try clear c27b0
                            try clear c27b1
                            try clear c28
                            try clear c28b0
                            try clear c28b1
                            try clear c29
                            try clear c29b0
                            try clear c30
                            try clear c31
                            try clear c31b0
                            try clear c31b1
                            try clear c32
                            try clear c32b0
                            try clear c33
                            try clear c33b0
                            try clear c35
                            try clear c35b0
                            try clear c36
                            try clear c36b0
                            try clear p37
                            try clear q37
                            try clear hx37
                            try clear hf37
                            try clear hx151_0
                            try clear hx155_0
                            try clear hx155_1
                            try clear hx155_2
                            try clear hx156_0
                            try clear hx37_0
                            try clear p1
                            try clear p15
                            try clear p151
                            try clear p155
                            try clear p156
                            try clear p2
                            try clear p37
                            try clear p6
                            try clear q1
                            try clear q15
                            try clear q151
                            try clear q155
                            try clear q156
                            try clear q37
                            obtain ⟨x75_3, rfl, HA, HK3, HO_73, HB⟩ := hrel
                            cases gk with
                            | zero => exact absurd HA.out (by simp [darninglaw15_FitOrder.l0])
                            | succ k3 =>
                              have H := HA.out
                              clear HA
                              simp only [darninglaw15_FitOrder.l0] at H
                              by_cases c45 : x75_3 < (t146.length : Int)
                              · rw [if_pos c45] at H
                                have c45b0 : decide (x75_3 < (t146.length : Int)) = true := decide_eq_true c45
                                clear c45
                                by_cases c46 : 0 ≤ x75_3
                                · rw [if_pos c46] at H
                                  have c46b0 : decide (0 ≤ x75_3) = true := decide_eq_true c46
                                  clear c46
                                  by_cases c47 : x75_3 < (t146.length : Int)
                                  · rw [if_pos c47] at H
                                    have c47b0 : decide (x75_3 < (t146.length : Int)) = true := decide_eq_true c47
                                    clear c47
                                    by_cases c48 : (rd t146 x75_3) ≥ 0
                                    · rw [if_pos c48] at H
                                      have c48b0 : decide (0 ≤ (rd t146 x75_3)) = true := decide_eq_true c48
                                      clear c48
                                      by_cases c49 : (rd t146 x75_3) < (l0.length : Int)
                                      · rw [if_pos c49] at H
                                        have c49b0 : decide ((rd t146 x75_3) < (l0.length : Int)) = true := decide_eq_true c49
                                        clear c49
                                        by_cases c50 : 0 ≤ (rd t146 x75_3)
                                        · rw [if_pos c50] at H
                                          have c50b0 : decide (0 ≤ (rd t146 x75_3)) = true := decide_eq_true c50
                                          clear c50
                                          by_cases c51 : 0 ≤ t149
                                          · rw [if_pos c51] at H
                                            have c51b0 : decide (0 ≤ t149) = true := decide_eq_true c51
                                            clear c51
                                            by_cases c52 : t149 < (l0.length : Int)
                                            · rw [if_pos c52] at H
                                              have c52b0 : decide (t149 < (l0.length : Int)) = true := decide_eq_true c52
                                              clear c52
                                              by_cases c53 : (wrap64 (Int.tdiv ((rd_T35 l0 (rd t146 x75_3)).f0) 32)) = (wrap64 (Int.tdiv ((rd_T35 l0 t149).f0) 32))
                                              · rw [if_pos c53] at H
                                                have c53b0 : ((wrap64 (Int.tdiv ((rd_T35 l0 (rd t146 x75_3)).f0) 32)) == (wrap64 (Int.tdiv ((rd_T35 l0 t149).f0) 32))) = true := beq_iff_eq.mpr c53
                                                have c53b1 : ((wrap64 (Int.tdiv ((rd_T35 l0 (rd t146 x75_3)).f0) 32)) != (wrap64 (Int.tdiv ((rd_T35 l0 t149).f0) 32))) = false := bne_eq_false_iff_eq.mpr c53
                                                clear c53
                                                have H' := Aside0.mk H
                                                clear H
                                                have p159 : 0 ≤ (x75_3 : Int) := of_decide_eq_true (by first | (with_reducible assumption) | assumption)
                                                have q159 : x75_3 < (t146.length : Int) := of_decide_eq_true (by first | (with_reducible assumption) | assumption)
                                                obtain ⟨ad159, e159, hx159_0⟩ := Kd.at_int (Kd.R_reads' HO_73.out).2.2 x75_3 p159 q159
                                                cases e159
                                                replace p159 := eq_true p159
                                                replace q159 := eq_true q159
                                                have p160 : 0 ≤ ((rd t146 x75_3) : Int) := of_decide_eq_true (by first | (with_reducible assumption) | assumption)
                                                have q160 : (rd t146 x75_3) < (l0.length : Int) := of_decide_eq_true (by first | (with_reducible assumption) | assumption)
                                                obtain ⟨ad160, e160, hx160_0, hx160_1, hx160_2⟩ := at_T35 HR0.out (rd t146 x75_3) p160 q160
                                                obtain rfl : ad155 = ad160 := (by injection e160)
                                                replace hx160_0 := (HB.out.cell (World.block_lt_of_cell? w _ hx160_0)).trans hx160_0
                                                replace hx160_1 := (HB.out.cell (World.block_lt_of_cell? w _ hx160_1)).trans hx160_1
                                                replace hx160_2 := (HB.out.cell (World.block_lt_of_cell? w _ hx160_2)).trans hx160_2
                                                replace p160 := eq_true p160
                                                replace q160 := eq_true q160
                                                have p161 : 0 ≤ (t149 : Int) := of_decide_eq_true (by first | (with_reducible assumption) | assumption)
                                                have q161 : t149 < (l0.length : Int) := of_decide_eq_true (by first | (with_reducible assumption) | assumption)
                                                obtain ⟨ad161, e161, hx161_0, hx161_1, hx161_2⟩ := at_T35 HR0.out t149 p161 q161
                                                obtain rfl : ad155 = ad161 := (by injection e161)
                                                replace hx161_0 := (HB.out.cell (World.block_lt_of_cell? w _ hx161_0)).trans hx161_0
                                                replace hx161_1 := (HB.out.cell (World.block_lt_of_cell? w _ hx161_1)).trans hx161_1
                                                replace hx161_2 := (HB.out.cell (World.block_lt_of_cell? w _ hx161_2)).trans hx161_2
                                                replace p161 := eq_true p161
                                                replace q161 := eq_true q161
                                                go_wp2
                                                repeat (go_quiet (fail); try go_wp2)
                                                go_roundg k3
                                                case measure => have := HJ3.out; have := HJ22.out; have := HK3.out; omega
                                                case rel => exact ⟨(wrap64 (x75_3 + 1)), (by first | rfl | (simp; done) | (simp [*]; done)), H', ⟨by have := HJ3.out; have := HJ22.out; have := HK3.out; omega⟩, ⟨by (with_reducible repeat (first | apply Kd.R_alloc | apply Kd.R_drewN | apply Kd.R_drew)); exact HO_73.out⟩, ⟨by repeat (first | (with_reducible first | exact HB.out | apply below_alloc | apply pw_below_drewN | apply below_drew1) | exact HB.out)⟩⟩
                                              · rw [if_neg c53] at H
                                                have c53b0 : ((wrap64 (Int.tdiv ((rd_T35 l0 (rd t146 x75_3)).f0) 32)) == (wrap64 (Int.tdiv ((rd_T35 l0 t149).f0) 32))) = false := beq_eq_false_iff_ne.mpr c53
                                                have c53b1 : ((wrap64 (Int.tdiv ((rd_T35 l0 (rd t146 x75_3)).f0) 32)) != (wrap64 (Int.tdiv ((rd_T35 l0 t149).f0) 32))) = true := bne_iff_ne.mpr c53
                                                by_cases c54 : t158 = (rd t146 x75_3)
                                                · rw [if_pos c54] at H
                                                  have c54b0 : (t158 == (rd t146 x75_3)) = true := beq_iff_eq.mpr c54
                                                  have c54b1 : (t158 != (rd t146 x75_3)) = false := bne_eq_false_iff_eq.mpr c54
                                                  clear c54
                                                  replace H := Option.bind_eq_some_iff.mp H
                                                  obtain ⟨t162, A550, H⟩ := H
                                                  replace H : (some t162) = some r := H
                                                  have A55 := Aside0.mk A550
                                                  clear A550
                                                  obtain rfl := Option.some.inj H
                                                  have p159 : 0 ≤ (x75_3 : Int) := of_decide_eq_true (by first | (with_reducible assumption) | assumption)
                                                  have q159 : x75_3 < (t146.length : Int) := of_decide_eq_true (by first | (with_reducible assumption) | assumption)
                                                  obtain ⟨ad159, e159, hx159_0⟩ := Kd.at_int (Kd.R_reads' HO_73.out).2.2 x75_3 p159 q159
                                                  cases e159
                                                  replace p159 := eq_true p159
                                                  replace q159 := eq_true q159
                                                  have p160 : 0 ≤ ((rd t146 x75_3) : Int) := of_decide_eq_true (by first | (with_reducible assumption) | assumption)
                                                  have q160 : (rd t146 x75_3) < (l0.length : Int) := of_decide_eq_true (by first | (with_reducible assumption) | assumption)
                                                  obtain ⟨ad160, e160, hx160_0, hx160_1, hx160_2⟩ := at_T35 HR0.out (rd t146 x75_3) p160 q160
                                                  obtain rfl : ad155 = ad160 := (by injection e160)
                                                  replace hx160_0 := (HB.out.cell (World.block_lt_of_cell? w _ hx160_0)).trans hx160_0
                                                  replace hx160_1 := (HB.out.cell (World.block_lt_of_cell? w _ hx160_1)).trans hx160_1
                                                  replace hx160_2 := (HB.out.cell (World.block_lt_of_cell? w _ hx160_2)).trans hx160_2
                                                  replace p160 := eq_true p160
                                                  replace q160 := eq_true q160
                                                  have p161 : 0 ≤ (t149 : Int) := of_decide_eq_true (by first | (with_reducible assumption) | assumption)
                                                  have q161 : t149 < (l0.length : Int) := of_decide_eq_true (by first | (with_reducible assumption) | assumption)
                                                  obtain ⟨ad161, e161, hx161_0, hx161_1, hx161_2⟩ := at_T35 HR0.out t149 p161 q161
                                                  obtain rfl : ad155 = ad161 := (by injection e161)
                                                  replace hx161_0 := (HB.out.cell (World.block_lt_of_cell? w _ hx161_0)).trans hx161_0
                                                  replace hx161_1 := (HB.out.cell (World.block_lt_of_cell? w _ hx161_1)).trans hx161_1
                                                  replace hx161_2 := (HB.out.cell (World.block_lt_of_cell? w _ hx161_2)).trans hx161_2
                                                  replace p161 := eq_true p161
                                                  replace q161 := eq_true q161
                                                  go_wp2_with (first | (go_at_call 21; (with_reducible refine (darninglaw15_awake.calls k3  t162 _ A55.out).mono ?_); rintro e w56 ⟨rfl, hb⟩; have n0_ := Aside0.mk (Kd.R_below (by (with_reducible repeat (first | apply Kd.R_alloc | apply Kd.R_drewN | apply Kd.R_drew)); exact HO_73.out) hb); have n1_ := Aside0.mk (below_step (by repeat (first | (with_reducible first | exact HB.out | apply below_alloc | apply pw_below_drewN | apply below_drew1) | exact HB.out)) hb); clear HO_73; clear HB; have HO_73 := n0_; have HB := n1_; clear n0_ n1_; (try clear hb); (try clear hb2); (try clear hk); (try clear hi)))
                                                  repeat (go_quiet (first | (go_at_call 21; (with_reducible refine (darninglaw15_awake.calls k3  t162 _ A55.out).mono ?_); rintro e w56 ⟨rfl, hb⟩; have n0_ := Aside0.mk (Kd.R_below (by (with_reducible repeat (first | apply Kd.R_alloc | apply Kd.R_drewN | apply Kd.R_drew)); exact HO_73.out) hb); have n1_ := Aside0.mk (below_step (by repeat (first | (with_reducible first | exact HB.out | apply below_alloc | apply pw_below_drewN | apply below_drew1) | exact HB.out)) hb); clear HO_73; clear HB; have HO_73 := n0_; have HB := n1_; clear n0_ n1_; (try clear hb); (try clear hb2); (try clear hk); (try clear hi))); try go_wp2_with (first | (go_at_call 21; (with_reducible refine (darninglaw15_awake.calls k3  t162 _ A55.out).mono ?_); rintro e w56 ⟨rfl, hb⟩; have n0_ := Aside0.mk (Kd.R_below (by (with_reducible repeat (first | apply Kd.R_alloc | apply Kd.R_drewN | apply Kd.R_drew)); exact HO_73.out) hb); have n1_ := Aside0.mk (below_step (by repeat (first | (with_reducible first | exact HB.out | apply below_alloc | apply pw_below_drewN | apply below_drew1) | exact HB.out)) hb); clear HO_73; clear HB; have HO_73 := n0_; have HB := n1_; clear n0_ n1_; (try clear hb); (try clear hb2); (try clear hk); (try clear hi))))
                                                  go_ret
                                                  exact ⟨by first | rfl | (simp [errW_none, errW_some] <;> rfl) | (simp only [← hji34]; first | rfl | (simp [errW_none, errW_some] <;> rfl)) | (simp [*, errW_none, errW_some] <;> rfl), by repeat (first | (with_reducible first | exact HB.out | apply below_alloc | apply pw_below_drewN | apply below_drew1) | exact HB.out)⟩
                                                · rw [if_neg c54] at H
                                                  have c54b0 : (t158 == (rd t146 x75_3)) = false := beq_eq_false_iff_ne.mpr c54
                                                  have c54b1 : (t158 != (rd t146 x75_3)) = true := bne_iff_ne.mpr c54
                                                  obtain rfl := Option.some.inj H
                                                  have p159 : 0 ≤ (x75_3 : Int) := of_decide_eq_true (by first | (with_reducible assumption) | assumption)
                                                  have q159 : x75_3 < (t146.length : Int) := of_decide_eq_true (by first | (with_reducible assumption) | assumption)
                                                  obtain ⟨ad159, e159, hx159_0⟩ := Kd.at_int (Kd.R_reads' HO_73.out).2.2 x75_3 p159 q159
                                                  cases e159
                                                  replace p159 := eq_true p159
                                                  replace q159 := eq_true q159
                                                  have p160 : 0 ≤ ((rd t146 x75_3) : Int) := of_decide_eq_true (by first | (with_reducible assumption) | assumption)
                                                  have q160 : (rd t146 x75_3) < (l0.length : Int) := of_decide_eq_true (by first | (with_reducible assumption) | assumption)
                                                  obtain ⟨ad160, e160, hx160_0, hx160_1, hx160_2⟩ := at_T35 HR0.out (rd t146 x75_3) p160 q160
                                                  obtain rfl : ad155 = ad160 := (by injection e160)
                                                  replace hx160_0 := (HB.out.cell (World.block_lt_of_cell? w _ hx160_0)).trans hx160_0
                                                  replace hx160_1 := (HB.out.cell (World.block_lt_of_cell? w _ hx160_1)).trans hx160_1
                                                  replace hx160_2 := (HB.out.cell (World.block_lt_of_cell? w _ hx160_2)).trans hx160_2
                                                  replace p160 := eq_true p160
                                                  replace q160 := eq_true q160
                                                  have p161 : 0 ≤ (t149 : Int) := of_decide_eq_true (by first | (with_reducible assumption) | assumption)
                                                  have q161 : t149 < (l0.length : Int) := of_decide_eq_true (by first | (with_reducible assumption) | assumption)
                                                  obtain ⟨ad161, e161, hx161_0, hx161_1, hx161_2⟩ := at_T35 HR0.out t149 p161 q161
                                                  obtain rfl : ad155 = ad161 := (by injection e161)
                                                  replace hx161_0 := (HB.out.cell (World.block_lt_of_cell? w _ hx161_0)).trans hx161_0
                                                  replace hx161_1 := (HB.out.cell (World.block_lt_of_cell? w _ hx161_1)).trans hx161_1
                                                  replace hx161_2 := (HB.out.cell (World.block_lt_of_cell? w _ hx161_2)).trans hx161_2
                                                  replace p161 := eq_true p161
                                                  replace q161 := eq_true q161
                                                  go_wp2
                                                  repeat (go_quiet (fail); try go_wp2)
                                                  go_ret
                                                  exact ⟨by first | rfl | (simp [errW_none, errW_some] <;> rfl) | (simp only [← hji34]; first | rfl | (simp [errW_none, errW_some] <;> rfl)) | (simp [*, errW_none, errW_some] <;> rfl), by repeat (first | (with_reducible first | exact HB.out | apply below_alloc | apply pw_below_drewN | apply below_drew1) | exact HB.out)⟩
                                            · rw [if_neg c52] at H
                                              exact absurd H (by simp)
                                          · rw [if_neg c51] at H
                                            exact absurd H (by simp)
                                        · rw [if_neg c50] at H
                                          exact absurd H (by simp)
                                      · rw [if_neg c49] at H
                                        have c49b0 : decide ((rd t146 x75_3) < (l0.length : Int)) = false := decide_eq_false c49
                                        clear c49
                                        have H' := Aside0.mk H
                                        clear H
                                        have p159 : 0 ≤ (x75_3 : Int) := of_decide_eq_true (by first | (with_reducible assumption) | assumption)
                                        have q159 : x75_3 < (t146.length : Int) := of_decide_eq_true (by first | (with_reducible assumption) | assumption)
                                        obtain ⟨ad159, e159, hx159_0⟩ := Kd.at_int (Kd.R_reads' HO_73.out).2.2 x75_3 p159 q159
                                        cases e159
                                        replace p159 := eq_true p159
                                        replace q159 := eq_true q159
                                        go_wp2
                                        repeat (go_quiet (fail); try go_wp2)
                                        go_roundg k3
                                        case measure => have := HJ3.out; have := HJ22.out; have := HK3.out; omega
                                        case rel => exact ⟨(wrap64 (x75_3 + 1)), (by first | rfl | (simp; done) | (simp [*]; done)), H', ⟨by have := HJ3.out; have := HJ22.out; have := HK3.out; omega⟩, ⟨by (with_reducible repeat (first | apply Kd.R_alloc | apply Kd.R_drewN | apply Kd.R_drew)); exact HO_73.out⟩, ⟨by repeat (first | (with_reducible first | exact HB.out | apply below_alloc | apply pw_below_drewN | apply below_drew1) | exact HB.out)⟩⟩
                                    · rw [if_neg c48] at H
                                      have c48b0 : decide (0 ≤ (rd t146 x75_3)) = false := decide_eq_false c48
                                      clear c48
                                      have H' := Aside0.mk H
                                      clear H
                                      have p159 : 0 ≤ (x75_3 : Int) := of_decide_eq_true (by first | (with_reducible assumption) | assumption)
                                      have q159 : x75_3 < (t146.length : Int) := of_decide_eq_true (by first | (with_reducible assumption) | assumption)
                                      obtain ⟨ad159, e159, hx159_0⟩ := Kd.at_int (Kd.R_reads' HO_73.out).2.2 x75_3 p159 q159
                                      cases e159
                                      replace p159 := eq_true p159
                                      replace q159 := eq_true q159
                                      go_wp2
                                      repeat (go_quiet (fail); try go_wp2)
                                      go_roundg k3
                                      case measure => have := HJ3.out; have := HJ22.out; have := HK3.out; omega
                                      case rel => exact ⟨(wrap64 (x75_3 + 1)), (by first | rfl | (simp; done) | (simp [*]; done)), H', ⟨by have := HJ3.out; have := HJ22.out; have := HK3.out; omega⟩, ⟨by (with_reducible repeat (first | apply Kd.R_alloc | apply Kd.R_drewN | apply Kd.R_drew)); exact HO_73.out⟩, ⟨by repeat (first | (with_reducible first | exact HB.out | apply below_alloc | apply pw_below_drewN | apply below_drew1) | exact HB.out)⟩⟩
                                  · rw [if_neg c47] at H
                                    exact absurd H (by simp)
                                · rw [if_neg c46] at H
                                  exact absurd H (by simp)
                              · rw [if_neg c45] at H
                                have c45b0 : decide (x75_3 < (t146.length : Int)) = false := decide_eq_false c45
                                clear c45
                                by_cases c57 : t158 = t149
                                · rw [if_pos c57] at H
                                  have c57b0 : (t158 == t149) = true := beq_iff_eq.mpr c57
                                  have c57b1 : (t158 != t149) = false := bne_eq_false_iff_eq.mpr c57
                                  clear c57
                                  replace H := Option.bind_eq_some_iff.mp H
                                  obtain ⟨t163, A580, H⟩ := H
                                  replace H : (some t163) = some r := H
                                  have A58 := Aside0.mk A580
                                  clear A580
                                  obtain rfl := Option.some.inj H
                                  go_wp2_with (first | (go_at_call 21; (with_reducible refine (darninglaw15_awake.calls k3  t163 _ A58.out).mono ?_); rintro e w59 ⟨rfl, hb⟩; have n0_ := Aside0.mk (Kd.R_below (by (with_reducible repeat (first | apply Kd.R_alloc | apply Kd.R_drewN | apply Kd.R_drew)); exact HO_73.out) hb); have n1_ := Aside0.mk (below_step (by repeat (first | (with_reducible first | exact HB.out | apply below_alloc | apply pw_below_drewN | apply below_drew1) | exact HB.out)) hb); clear HO_73; clear HB; have HO_73 := n0_; have HB := n1_; clear n0_ n1_; (try clear hb); (try clear hb2); (try clear hk); (try clear hi)))
                                  repeat (go_quiet (first | (go_at_call 21; (with_reducible refine (darninglaw15_awake.calls k3  t163 _ A58.out).mono ?_); rintro e w59 ⟨rfl, hb⟩; have n0_ := Aside0.mk (Kd.R_below (by (with_reducible repeat (first | apply Kd.R_alloc | apply Kd.R_drewN | apply Kd.R_drew)); exact HO_73.out) hb); have n1_ := Aside0.mk (below_step (by repeat (first | (with_reducible first | exact HB.out | apply below_alloc | apply pw_below_drewN | apply below_drew1) | exact HB.out)) hb); clear HO_73; clear HB; have HO_73 := n0_; have HB := n1_; clear n0_ n1_; (try clear hb); (try clear hb2); (try clear hk); (try clear hi))); try go_wp2_with (first | (go_at_call 21; (with_reducible refine (darninglaw15_awake.calls k3  t163 _ A58.out).mono ?_); rintro e w59 ⟨rfl, hb⟩; have n0_ := Aside0.mk (Kd.R_below (by (with_reducible repeat (first | apply Kd.R_alloc | apply Kd.R_drewN | apply Kd.R_drew)); exact HO_73.out) hb); have n1_ := Aside0.mk (below_step (by repeat (first | (with_reducible first | exact HB.out | apply below_alloc | apply pw_below_drewN | apply below_drew1) | exact HB.out)) hb); clear HO_73; clear HB; have HO_73 := n0_; have HB := n1_; clear n0_ n1_; (try clear hb); (try clear hb2); (try clear hk); (try clear hi))))
                                  go_ret
                                  exact ⟨by first | rfl | (simp [errW_none, errW_some] <;> rfl) | (simp only [← hji34]; first | rfl | (simp [errW_none, errW_some] <;> rfl)) | (simp [*, errW_none, errW_some] <;> rfl), by repeat (first | (with_reducible first | exact HB.out | apply below_alloc | apply pw_below_drewN | apply below_drew1) | exact HB.out)⟩
                                · rw [if_neg c57] at H
                                  have c57b0 : (t158 == t149) = false := beq_eq_false_iff_ne.mpr c57
                                  have c57b1 : (t158 != t149) = true := bne_iff_ne.mpr c57
                                  obtain rfl := Option.some.inj H
                                  go_wp2
                                  repeat (go_quiet (fail); try go_wp2)
                                  go_ret
                                  exact ⟨by first | rfl | (simp [errW_none, errW_some] <;> rfl) | (simp only [← hji34]; first | rfl | (simp [errW_none, errW_some] <;> rfl)) | (simp [*, errW_none, errW_some] <;> rfl), by repeat (first | (with_reducible first | exact HB.out | apply below_alloc | apply pw_below_drewN | apply below_drew1) | exact HB.out)⟩
                        · rw [if_neg c36] at H
                          exact absurd H (by simp)
                      · rw [if_neg c35] at H
                        exact absurd H (by simp)
                    · rw [if_neg c33] at H
                      exact absurd H (by simp)
                  · rw [if_neg c32] at H
                    exact absurd H (by simp)
                · rw [if_neg c31] at H
                  exact absurd H (by simp)
/-- What a value of type 35 that is read fits. -/
def wfT35 (x : S35) : Prop := (Lit.int .i64 x.f0).wf = true ∧ (Lit.int .i64 x.f1).wf = true ∧ True

/-- THE ONE PURE STATEMENT of darninglaw15_FitOrder. -/
def darninglaw15_FitOrder.Pure : Prop := ∀ (l0 : List (S35)) (a1 : Int) (a2 : Int), l0.length ≤ maxLen → l0.length * 24 ≤ 140737488351232 → (∀ x ∈ l0, wfT35 x) → (Lit.int .i64 a1).wf = true → (Lit.int .i64 a2).wf = true → ∃ k, darninglaw15_FitOrder.f k l0 a1 a2 = some true
theorem darninglaw15_FitOrder.walk (P : darninglaw15_FitOrder.Pure) (A0 : Option Addr) (c0 : Nat) (l0 : List (S35)) (a1 : Int) (a2 : Int) (w : World) (hr0 : Kd.C k35 w A0 l0.length l0) (hc0 : l0.length ≤ c0) (hm0 : l0.length ≤ maxLen) (y0 : l0.length * 24 ≤ 140737488351232) (hw0 : (∀ x ∈ l0, wfT35 x)) (w1 : (Lit.int .i64 a1).wf = true) (w2 : (Lit.int .i64 a2).wf = true) :
    Calls Try.prog 7 #[.slice A0 l0.length c0, .int .i64 a1, .int .i64 a2] w fun e w' => e = .returned (.bool true) ∧ Below w.heap.size w w' := by
  obtain ⟨k, h⟩ := P l0 a1 a2 hm0 y0 hw0 w1 w2
  refine (darninglaw15_FitOrder.calls k A0 c0 l0 a1 a2 true w hr0 hc0 h).mono ?_
  rintro e w' ⟨rfl, hd⟩
  exact ⟨rfl, hd⟩

end Go.Proofs.Ytjmlbkbjmeeplab.XFitOrder
