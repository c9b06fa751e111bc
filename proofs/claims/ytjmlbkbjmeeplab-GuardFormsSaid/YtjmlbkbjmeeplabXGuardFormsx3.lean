-- Laid by this session's own printer (wip/xprint.py): each Go function that the law reaches as a plain Lean function, and that the call comes to it.
import Derived.Test.YtjmlbkbjmeeplabXGuardFormsx0
import Derived.Test.YtjmlbkbjmeeplabXGuardFormsx1
import Derived.Test.YtjmlbkbjmeeplabXGuardFormsx2
namespace Go.Proofs.Ytjmlbkbjmeeplab.XGuardForms
open Go.RowKit Go.Proofs.YtjmlbkbjmeeplabW.PrintWords Go.Proofs.YtjmlbkbjmeeplabW.PrintLast Go.Proofs.YtjmlbkbjmeeplabW.PrintMore
attribute [local go_sem] max2_int min2_int max_two min_two max_three min_three max_four min_four   -- for this text's walks alone
set_option linter.unusedVariables false
set_option linter.unusedSimpArgs false

/-! ### darninglaw3_GuardForms: function 13 -/
mutual
def darninglaw3_GuardForms.j0 : Nat → List Int → Int → Int → Int → Int → List (S50) → Bool → Option (Bool)
  | 0, _, _, _, _, _, _, _ => none
  | k + 1, x0, x1, x2, x3, x4, x5, x34 => if x34 = true then ((darninglaw3_awake.f).bind fun t155 => (some t155)) else ((guard_Index.f x0 x1).bind fun bt156 => (if x1 ≥ 0 then (darninglaw3_GuardForms.j1 k x0 x1 x2 x3 x4 x5 bt156.1 bt156.2 (decide (x1 < (x0.length : Int)))) else (darninglaw3_GuardForms.j1 k x0 x1 x2 x3 x4 x5 bt156.1 bt156.2 false)))
def darninglaw3_GuardForms.j1 : Nat → List Int → Int → Int → Int → Int → List (S50) → Int → Bool → Bool → Option (Bool)
  | 0, _, _, _, _, _, _, _, _, _ => none
  | k + 1, x0, x1, x2, x3, x4, x5, x13, x14, x15 => if (x14 != x15) = true then (darninglaw3_GuardForms.j2 k x0 x1 x2 x3 x4 x5 true) else (if x15 = true then (if 0 ≤ x1 then (if x1 < (x0.length : Int) then (if x13 = (rd x0 x1) then (darninglaw3_GuardForms.j2 k x0 x1 x2 x3 x4 x5 false) else (darninglaw3_GuardForms.j2 k x0 x1 x2 x3 x4 x5 true)) else (none)) else (none)) else (darninglaw3_GuardForms.j2 k x0 x1 x2 x3 x4 x5 (x13 != 0)))
def darninglaw3_GuardForms.j2 : Nat → List Int → Int → Int → Int → Int → List (S50) → Bool → Option (Bool)
  | 0, _, _, _, _, _, _, _ => none
  | k + 1, x0, x1, x2, x3, x4, x5, x71 => if x71 = true then (some false) else ((guard_Slice.f x0 x1 x2).bind fun bt159 => (if x1 ≥ 0 then (if x2 ≥ x1 then (darninglaw3_GuardForms.j3 k x0 x1 x2 x3 x4 x5 bt159.1 bt159.2 (decide (x2 ≤ (x0.length : Int)))) else (darninglaw3_GuardForms.j3 k x0 x1 x2 x3 x4 x5 bt159.1 bt159.2 false)) else (darninglaw3_GuardForms.j3 k x0 x1 x2 x3 x4 x5 bt159.1 bt159.2 false)))
def darninglaw3_GuardForms.j3 : Nat → List Int → Int → Int → Int → Int → List (S50) → List Int → Bool → Bool → Option (Bool)
  | 0, _, _, _, _, _, _, _, _, _ => none
  | k + 1, x0, x1, x2, x3, x4, x5, x16, x17, x18 => if (x17 != x18) = true then (darninglaw3_GuardForms.j4 k x0 x3 x4 x5 true) else (if x18 = true then (if 0 ≤ x1 then (if x1 ≤ x2 then (if x2 ≤ (x0.length : Int) then ((darningref1_Ints.f k x16 ((x0.take (x2 : Int).toNat).drop (x1 : Int).toNat)).bind fun t164 => (if t164 = true then (darninglaw3_GuardForms.j4 k x0 x3 x4 x5 false) else (darninglaw3_GuardForms.j4 k x0 x3 x4 x5 true))) else (none)) else (none)) else (none)) else (darninglaw3_GuardForms.j4 k x0 x3 x4 x5 ((x16.length : Int) != 0)))
def darninglaw3_GuardForms.j4 : Nat → List Int → Int → Int → List (S50) → Bool → Option (Bool)
  | 0, _, _, _, _, _ => none
  | k + 1, x0, x3, x4, x5, x115 => if x115 = true then (some false) else ((guard_Div.f x3 x4).bind fun bt165 => (if (bt165.2 != (x4 != 0)) = true then (darninglaw3_GuardForms.j5 k x0 x5 true) else (if x4 = 0 then (darninglaw3_GuardForms.j5 k x0 x5 (bt165.1 != 0)) else (if bt165.1 = (wrap64 (Int.tdiv x3 x4)) then (darninglaw3_GuardForms.j5 k x0 x5 false) else (darninglaw3_GuardForms.j5 k x0 x5 true)))))
def darninglaw3_GuardForms.j5 : Nat → List Int → List (S50) → Bool → Option (Bool)
  | 0, _, _, _ => none
  | k + 1, x0, x5, x144 => if x144 = true then (some false) else ((guard_Run.f x0 x5).bind fun bt167 => ((darningref1_Run.f k x0 x5).bind fun bt172 => ((darningref1_Ints.f k bt167.1 bt172.1).bind fun t177 => (if t177 = true then (if bt167.2.1 = bt172.2.1 then (if (bt167.2.2 == bt172.2.2) = true then ((darninglaw3_awake.f).bind fun t178 => (some t178)) else (some false)) else (some false)) else (some false)))))
end
def darninglaw3_GuardForms.f (k : Nat) (l0 : List Int) (a1 : Int) (a2 : Int) (a3 : Int) (a4 : Int) (l5 : List (S50)) : Option (Bool) := if (l0.length : Int) > 200 then (darninglaw3_GuardForms.j0 k l0 a1 a2 a3 a4 l5 true) else (darninglaw3_GuardForms.j0 k l0 a1 a2 a3 a4 l5 (decide ((l5.length : Int) > 1500)))
theorem darninglaw3_GuardForms.mono_l : ∀ k, (∀ y0 y1 y2 y3 y4 y5 y6, LeO (darninglaw3_GuardForms.j0 k y0 y1 y2 y3 y4 y5 y6) (darninglaw3_GuardForms.j0 (k + 1) y0 y1 y2 y3 y4 y5 y6)) ∧ (∀ y0 y1 y2 y3 y4 y5 y6 y7 y8, LeO (darninglaw3_GuardForms.j1 k y0 y1 y2 y3 y4 y5 y6 y7 y8) (darninglaw3_GuardForms.j1 (k + 1) y0 y1 y2 y3 y4 y5 y6 y7 y8)) ∧ (∀ y0 y1 y2 y3 y4 y5 y6, LeO (darninglaw3_GuardForms.j2 k y0 y1 y2 y3 y4 y5 y6) (darninglaw3_GuardForms.j2 (k + 1) y0 y1 y2 y3 y4 y5 y6)) ∧ (∀ y0 y1 y2 y3 y4 y5 y6 y7 y8, LeO (darninglaw3_GuardForms.j3 k y0 y1 y2 y3 y4 y5 y6 y7 y8) (darninglaw3_GuardForms.j3 (k + 1) y0 y1 y2 y3 y4 y5 y6 y7 y8)) ∧ (∀ y0 y1 y2 y3 y4, LeO (darninglaw3_GuardForms.j4 k y0 y1 y2 y3 y4) (darninglaw3_GuardForms.j4 (k + 1) y0 y1 y2 y3 y4)) ∧ (∀ y0 y1 y2, LeO (darninglaw3_GuardForms.j5 k y0 y1 y2) (darninglaw3_GuardForms.j5 (k + 1) y0 y1 y2))
  | 0 => ⟨fun _ _ _ _ _ _ _ r h => by simp [darninglaw3_GuardForms.j0] at h, fun _ _ _ _ _ _ _ _ _ r h => by simp [darninglaw3_GuardForms.j1] at h, fun _ _ _ _ _ _ _ r h => by simp [darninglaw3_GuardForms.j2] at h, fun _ _ _ _ _ _ _ _ _ r h => by simp [darninglaw3_GuardForms.j3] at h, fun _ _ _ _ _ r h => by simp [darninglaw3_GuardForms.j4] at h, fun _ _ _ r h => by simp [darninglaw3_GuardForms.j5] at h⟩
  | k + 1 => by
    obtain ⟨ih0, ih1, ih2, ih3, ih4, ih5⟩ := darninglaw3_GuardForms.mono_l k
    refine ⟨?_, ?_, ?_, ?_, ?_, ?_⟩
    · intro y0 y1 y2 y3 y4 y5 y6
      unfold darninglaw3_GuardForms.j0
      repeat' first
      | (with_reducible exact ih0 _ _ _ _ _ _ _)
      | (with_reducible exact ih1 _ _ _ _ _ _ _ _ _)
      | (with_reducible exact ih2 _ _ _ _ _ _ _)
      | (with_reducible exact ih3 _ _ _ _ _ _ _ _ _)
      | (with_reducible exact ih4 _ _ _ _ _)
      | (with_reducible exact ih5 _ _ _)
      | (with_reducible exact darningref1_Ints.mono _ _ _)
      | (with_reducible exact darningref1_Run.mono _ _ _)
      | (with_reducible exact LeO.refl _)
      | (with_reducible exact LeO.none _)
      | (with_reducible refine LeO.ite ?_ ?_)
      | (with_reducible refine LeO.bind ?_ (fun _ => ?_))
      | exact ih0 _ _ _ _ _ _ _
      | exact ih1 _ _ _ _ _ _ _ _ _
      | exact ih2 _ _ _ _ _ _ _
      | exact ih3 _ _ _ _ _ _ _ _ _
      | exact ih4 _ _ _ _ _
      | exact ih5 _ _ _
      | exact darningref1_Ints.mono _ _ _
      | exact darningref1_Run.mono _ _ _
      | exact LeO.none _
      | refine LeO.ite ?_ ?_
      | refine LeO.bind ?_ (fun _ => ?_)
    · intro y0 y1 y2 y3 y4 y5 y6 y7 y8
      unfold darninglaw3_GuardForms.j1
      repeat' first
      | (with_reducible exact ih0 _ _ _ _ _ _ _)
      | (with_reducible exact ih1 _ _ _ _ _ _ _ _ _)
      | (with_reducible exact ih2 _ _ _ _ _ _ _)
      | (with_reducible exact ih3 _ _ _ _ _ _ _ _ _)
      | (with_reducible exact ih4 _ _ _ _ _)
      | (with_reducible exact ih5 _ _ _)
      | (with_reducible exact darningref1_Ints.mono _ _ _)
      | (with_reducible exact darningref1_Run.mono _ _ _)
      | (with_reducible exact LeO.refl _)
      | (with_reducible exact LeO.none _)
      | (with_reducible refine LeO.ite ?_ ?_)
      | (with_reducible refine LeO.bind ?_ (fun _ => ?_))
      | exact ih0 _ _ _ _ _ _ _
      | exact ih1 _ _ _ _ _ _ _ _ _
      | exact ih2 _ _ _ _ _ _ _
      | exact ih3 _ _ _ _ _ _ _ _ _
      | exact ih4 _ _ _ _ _
      | exact ih5 _ _ _
      | exact darningref1_Ints.mono _ _ _
      | exact darningref1_Run.mono _ _ _
      | exact LeO.none _
      | refine LeO.ite ?_ ?_
      | refine LeO.bind ?_ (fun _ => ?_)
    · intro y0 y1 y2 y3 y4 y5 y6
      unfold darninglaw3_GuardForms.j2
      repeat' first
      | (with_reducible exact ih0 _ _ _ _ _ _ _)
      | (with_reducible exact ih1 _ _ _ _ _ _ _ _ _)
      | (with_reducible exact ih2 _ _ _ _ _ _ _)
      | (with_reducible exact ih3 _ _ _ _ _ _ _ _ _)
      | (with_reducible exact ih4 _ _ _ _ _)
      | (with_reducible exact ih5 _ _ _)
      | (with_reducible exact darningref1_Ints.mono _ _ _)
      | (with_reducible exact darningref1_Run.mono _ _ _)
      | (with_reducible exact LeO.refl _)
      | (with_reducible exact LeO.none _)
      | (with_reducible refine LeO.ite ?_ ?_)
      | (with_reducible refine LeO.bind ?_ (fun _ => ?_))
      | exact ih0 _ _ _ _ _ _ _
      | exact ih1 _ _ _ _ _ _ _ _ _
      | exact ih2 _ _ _ _ _ _ _
      | exact ih3 _ _ _ _ _ _ _ _ _
      | exact ih4 _ _ _ _ _
      | exact ih5 _ _ _
      | exact darningref1_Ints.mono _ _ _
      | exact darningref1_Run.mono _ _ _
      | exact LeO.none _
      | refine LeO.ite ?_ ?_
      | refine LeO.bind ?_ (fun _ => ?_)
    · intro y0 y1 y2 y3 y4 y5 y6 y7 y8
      unfold darninglaw3_GuardForms.j3
      repeat' first
      | (with_reducible exact ih0 _ _ _ _ _ _ _)
      | (with_reducible exact ih1 _ _ _ _ _ _ _ _ _)
      | (with_reducible exact ih2 _ _ _ _ _ _ _)
      | (with_reducible exact ih3 _ _ _ _ _ _ _ _ _)
      | (with_reducible exact ih4 _ _ _ _ _)
      | (with_reducible exact ih5 _ _ _)
      | (with_reducible exact darningref1_Ints.mono _ _ _)
      | (with_reducible exact darningref1_Run.mono _ _ _)
      | (with_reducible exact LeO.refl _)
      | (with_reducible exact LeO.none _)
      | (with_reducible refine LeO.ite ?_ ?_)
      | (with_reducible refine LeO.bind ?_ (fun _ => ?_))
      | exact ih0 _ _ _ _ _ _ _
      | exact ih1 _ _ _ _ _ _ _ _ _
      | exact ih2 _ _ _ _ _ _ _
      | exact ih3 _ _ _ _ _ _ _ _ _
      | exact ih4 _ _ _ _ _
      | exact ih5 _ _ _
      | exact darningref1_Ints.mono _ _ _
      | exact darningref1_Run.mono _ _ _
      | exact LeO.none _
      | refine LeO.ite ?_ ?_
      | refine LeO.bind ?_ (fun _ => ?_)
    · intro y0 y1 y2 y3 y4
      unfold darninglaw3_GuardForms.j4
      repeat' first
      | (with_reducible exact ih0 _ _ _ _ _ _ _)
      | (with_reducible exact ih1 _ _ _ _ _ _ _ _ _)
      | (with_reducible exact ih2 _ _ _ _ _ _ _)
      | (with_reducible exact ih3 _ _ _ _ _ _ _ _ _)
      | (with_reducible exact ih4 _ _ _ _ _)
      | (with_reducible exact ih5 _ _ _)
      | (with_reducible exact darningref1_Ints.mono _ _ _)
      | (with_reducible exact darningref1_Run.mono _ _ _)
      | (with_reducible exact LeO.refl _)
      | (with_reducible exact LeO.none _)
      | (with_reducible refine LeO.ite ?_ ?_)
      | (with_reducible refine LeO.bind ?_ (fun _ => ?_))
      | exact ih0 _ _ _ _ _ _ _
      | exact ih1 _ _ _ _ _ _ _ _ _
      | exact ih2 _ _ _ _ _ _ _
      | exact ih3 _ _ _ _ _ _ _ _ _
      | exact ih4 _ _ _ _ _
      | exact ih5 _ _ _
      | exact darningref1_Ints.mono _ _ _
      | exact darningref1_Run.mono _ _ _
      | exact LeO.none _
      | refine LeO.ite ?_ ?_
      | refine LeO.bind ?_ (fun _ => ?_)
    · intro y0 y1 y2
      unfold darninglaw3_GuardForms.j5
      repeat' first
      | (with_reducible exact ih0 _ _ _ _ _ _ _)
      | (with_reducible exact ih1 _ _ _ _ _ _ _ _ _)
      | (with_reducible exact ih2 _ _ _ _ _ _ _)
      | (with_reducible exact ih3 _ _ _ _ _ _ _ _ _)
      | (with_reducible exact ih4 _ _ _ _ _)
      | (with_reducible exact ih5 _ _ _)
      | (with_reducible exact darningref1_Ints.mono _ _ _)
      | (with_reducible exact darningref1_Run.mono _ _ _)
      | (with_reducible exact LeO.refl _)
      | (with_reducible exact LeO.none _)
      | (with_reducible refine LeO.ite ?_ ?_)
      | (with_reducible refine LeO.bind ?_ (fun _ => ?_))
      | exact ih0 _ _ _ _ _ _ _
      | exact ih1 _ _ _ _ _ _ _ _ _
      | exact ih2 _ _ _ _ _ _ _
      | exact ih3 _ _ _ _ _ _ _ _ _
      | exact ih4 _ _ _ _ _
      | exact ih5 _ _ _
      | exact darningref1_Ints.mono _ _ _
      | exact darningref1_Run.mono _ _ _
      | exact LeO.none _
      | refine LeO.ite ?_ ?_
      | refine LeO.bind ?_ (fun _ => ?_)
theorem darninglaw3_GuardForms.mono : ∀ a0 a1 a2 a3 a4 a5 k, LeO (darninglaw3_GuardForms.f k a0 a1 a2 a3 a4 a5) (darninglaw3_GuardForms.f (k + 1) a0 a1 a2 a3 a4 a5) := by
  intro a0 a1 a2 a3 a4 a5 k
  obtain ⟨ih0, ih1, ih2, ih3, ih4, ih5⟩ := darninglaw3_GuardForms.mono_l k
  unfold darninglaw3_GuardForms.f
  repeat' first
      | (with_reducible exact ih0 _ _ _ _ _ _ _)
      | (with_reducible exact ih1 _ _ _ _ _ _ _ _ _)
      | (with_reducible exact ih2 _ _ _ _ _ _ _)
      | (with_reducible exact ih3 _ _ _ _ _ _ _ _ _)
      | (with_reducible exact ih4 _ _ _ _ _)
      | (with_reducible exact ih5 _ _ _)
      | (with_reducible exact darningref1_Ints.mono _ _ _)
      | (with_reducible exact darningref1_Run.mono _ _ _)
      | (with_reducible exact LeO.refl _)
      | (with_reducible exact LeO.none _)
      | (with_reducible refine LeO.ite ?_ ?_)
      | (with_reducible refine LeO.bind ?_ (fun _ => ?_))
      | exact ih0 _ _ _ _ _ _ _
      | exact ih1 _ _ _ _ _ _ _ _ _
      | exact ih2 _ _ _ _ _ _ _
      | exact ih3 _ _ _ _ _ _ _ _ _
      | exact ih4 _ _ _ _ _
      | exact ih5 _ _ _
      | exact darningref1_Ints.mono _ _ _
      | exact darningref1_Run.mono _ _ _
      | exact LeO.none _
      | refine LeO.ite ?_ ?_
      | refine LeO.bind ?_ (fun _ => ?_)
set_option maxHeartbeats 8000000 in
set_option maxRecDepth 100000 in
theorem darninglaw3_GuardForms.calls (k : Nat) (A0 : Option Addr) (c0 : Nat) (l0 : List Int) (a1 : Int) (a2 : Int) (a3 : Int) (a4 : Int) (A5 : Option Addr) (c5 : Nat) (l5 : List (S50)) (w : World) (hr0 : Kd.C (Kd.int .i64) w A0 l0.length l0) (hc0 : l0.length ≤ c0) (hr5 : Kd.C k50 w A5 l5.length l5) (hc5 : l5.length ≤ c5) (h : darninglaw3_GuardForms.f k l0 a1 a2 a3 a4 l5 = some true) :
    Calls Try.prog 13 #[.slice A0 l0.length c0, .int .i64 a1, .int .i64 a2, .int .i64 a3, .int .i64 a4, .slice A5 l5.length c5] w fun e w' => e = .returned (.bool true) ∧ Below w.heap.size w w' := by
  have HR0 := Aside0.mk hr0
  have HC0 := Aside0.mk hc0
  clear hr0 hc0
  have HR5 := Aside0.mk hr5
  have HC5 := Aside0.mk hc5
  clear hr5 hc5
  have HB := Aside0.mk (Below.refl w.heap.size w)
  have H : (if (l0.length : Int) > 200 then (darninglaw3_GuardForms.j0 k l0 a1 a2 a3 a4 l5 true) else (darninglaw3_GuardForms.j0 k l0 a1 a2 a3 a4 l5 (decide ((l5.length : Int) > 1500)))) = some true := h
  clear h
  have HC7 := Aside0.mk H
  clear H
  go_enter Try.func13, Try.ntmps13
  go_upto_region 1 with (fail)
  go_cut [34] (fun v34 wc => ∃ (kq : Nat) (x34_6 : Bool), v34 = .bool x34_6 ∧ Aside0 (darninglaw3_GuardForms.j0 kq l0 a1 a2 a3 a4 l5 x34_6 = some true) ∧ Aside0 (kq ≤ k) ∧ Aside0 (Below w.heap.size w wc))
  case first =>
    have H := HC7.out
    clear HC7
    by_cases c8 : (l0.length : Int) > 200
    · rw [if_pos c8] at H
      have c8b0 : decide (200 < (l0.length : Int)) = true := decide_eq_true c8
      have c8b1 : decide (200 < l0.length) = true := decide_eq_true (by omega)
      clear c8
      (first | rw [c8b0] | (simp only [i64_w, i32_w]; rw [c8b0]) | skip)
      have H' := Aside0.mk H
      clear H
      go_wp2
      go_meet
      case rel => exact ⟨_, (true), (by first | rfl | (simp; done) | (simp [*]; done)), H', ⟨by first | omega | exact Nat.le_refl _⟩, ⟨by repeat (first | (with_reducible first | exact HB.out | apply below_alloc | apply pw_below_drewN | apply below_drew1) | exact HB.out)⟩⟩
    · rw [if_neg c8] at H
      have c8b0 : decide (200 < (l0.length : Int)) = false := decide_eq_false c8
      have c8b1 : decide (200 < l0.length) = false := decide_eq_false (by omega)
      clear c8
      (first | rw [c8b0] | (simp only [i64_w, i32_w]; rw [c8b0]) | skip)
      have H' := Aside0.mk H
      clear H
      go_wp2
      go_meet
      case rel => exact ⟨_, (decide ((l5.length : Int) > 1500)), (by first | rfl | (simp; done) | (simp [*]; done)), H', ⟨by first | omega | exact Nat.le_refl _⟩, ⟨by repeat (first | (with_reducible first | exact HB.out | apply below_alloc | apply pw_below_drewN | apply below_drew1) | exact HB.out)⟩⟩
  case rest =>
    clear HC7
    try clear c1
    try clear p2
    try clear c5
    try clear c8
    try clear c8b0
    try clear c8b1
    obtain ⟨kq, x34_6, rfl, HA, HJ6, HB⟩ := hcut
    cases kq with
    | zero => exact absurd HA.out (by simp [darninglaw3_GuardForms.j0])
    | succ kj6 =>
      have H := HA.out
      clear HA
      simp only [darninglaw3_GuardForms.j0] at H
      by_cases c9 : x34_6 = true
      · subst c9
        have H1 : ((darninglaw3_awake.f).bind fun t155 => (some t155)) = some true := by rw [if_pos rfl] at H; exact H
        clear H
        have H := H1
        clear H1
        replace H := Option.bind_eq_some_iff.mp H
        obtain ⟨t155, A100, H⟩ := H
        replace H : (some t155) = some true := H
        have A10 := Aside0.mk A100
        clear A100
        obtain rfl : t155 = true := Option.some.inj H
        go_wp2_with (first | ((with_reducible refine gate_callee (f := 28) rfl ?_); refine goesL_ (some 35) rfl rfl Try.func28 (by kernel_rfl) rfl #[] rfl (by (try simp only [List.map_toArray, List.map_cons, List.map_nil]); first | done | rfl | (simp only [List.length_drop, List.length_take]; rfl)) ?_; (with_reducible refine (darninglaw3_awake.calls  true _ A10.out).mono ?_); rintro e w11 ⟨rfl, hb⟩; refine ⟨_, rfl, ?_⟩; have n0_ := Aside0.mk (below_step (by repeat (first | (with_reducible first | exact HB.out | apply below_alloc | apply pw_below_drewN | apply below_drew1) | exact HB.out)) hb); clear HB; have HB := n0_; clear n0_; (try clear hb); (try clear hb2); (try clear hk); (try clear hi)))
        go_ret
        exact ⟨by first | rfl | (rw [HRA_.out]) | (simp only [HRA_.out]; done) | (simp only [← HRA_.out]; done) | (have HR_ := HRA_.out; simp_all) | (simp [errW_none, errW_some] <;> rfl) | (simp [*, errW_none, errW_some] <;> rfl), by repeat (first | (with_reducible first | exact HB.out | apply below_alloc | apply pw_below_drewN | apply below_drew1) | exact HB.out)⟩
      · replace c9 := Bool.eq_false_iff.mpr c9
        subst c9
        have H1 : ((guard_Index.f l0 a1).bind fun bt156 => (if a1 ≥ 0 then (darninglaw3_GuardForms.j1 kj6 l0 a1 a2 a3 a4 l5 bt156.1 bt156.2 (decide (a1 < (l0.length : Int)))) else (darninglaw3_GuardForms.j1 kj6 l0 a1 a2 a3 a4 l5 bt156.1 bt156.2 false))) = some true := by rw [if_neg (show ¬ (false = true) by decide)] at H; exact H
        clear H
        have H := H1
        clear H1
        replace H := Option.bind_eq_some_iff.mp H
        obtain ⟨⟨t156, t157⟩, A120, H⟩ := H
        replace H : (if a1 ≥ 0 then (darninglaw3_GuardForms.j1 kj6 l0 a1 a2 a3 a4 l5 t156 t157 (decide (a1 < (l0.length : Int)))) else (darninglaw3_GuardForms.j1 kj6 l0 a1 a2 a3 a4 l5 t156 t157 false)) = some true := H
        have A12 := Aside0.mk A120
        clear A120
        have HC13 := Aside0.mk H
        clear H
        go_upto_region 4 with (first | ((with_reducible refine gate_callee (f := 31) rfl ?_); refine goesL_ (some 39) rfl rfl Try.func31 (by kernel_rfl) rfl #[.slice A0 l0.length c0, .int .i64 a1] rfl (by (try simp only [List.map_toArray, List.map_cons, List.map_nil]); first | done | rfl | (simp only [List.length_drop, List.length_take]; rfl)) ?_; (with_reducible refine (guard_Index.calls _ _ l0 a1 t156 t157 _ ?side1 ?side2 A12.out).mono ?_); (case side1 => repeat (first | exact (Kd.C_below HR0.out HB.out) | (with_reducible refine Kd.C_alloc ?_ _) | (with_reducible refine Kd.C_drewN ?_ _) | (with_reducible refine Kd.C_drew ?_))); (case side2 => exact HC0.out); rintro e w14 ⟨rfl, hb⟩; refine ⟨_, rfl, ?_⟩; have n0_ := Aside0.mk (below_step (by repeat (first | (with_reducible first | exact HB.out | apply below_alloc | apply pw_below_drewN | apply below_drew1) | exact HB.out)) hb); clear HB; have HB := n0_; clear n0_; (try clear hb); (try clear hb2); (try clear hk); (try clear hi)))
        (try simp only [Act.put, List.setIfInBounds_toArray, List.set_cons_zero, List.set_cons_succ])
        go_cut [15] (fun v15 wc => ∃ (kq : Nat) (x15_12 : Bool), v15 = .bool x15_12 ∧ Aside0 (darninglaw3_GuardForms.j1 kq l0 a1 a2 a3 a4 l5 t156 t157 x15_12 = some true) ∧ Aside0 (kq ≤ kj6) ∧ Aside0 (Below w.heap.size w wc))
        case first =>
          have H := HC13.out
          clear HC13
          by_cases c15 : a1 ≥ 0
          · rw [if_pos c15] at H
            have c15b0 : decide (0 ≤ a1) = true := decide_eq_true c15
            clear c15
            (first | rw [c15b0] | (simp only [i64_w, i32_w]; rw [c15b0]) | skip)
            have H' := Aside0.mk H
            clear H
            go_wp2
            go_meet
            case rel => exact ⟨_, (decide (a1 < (l0.length : Int))), (by first | rfl | (simp; done) | (simp [*]; done)), H', ⟨by have := HJ6.out; first | omega | exact Nat.le_refl _⟩, ⟨by repeat (first | (with_reducible first | exact HB.out | apply below_alloc | apply pw_below_drewN | apply below_drew1) | exact HB.out)⟩⟩
          · rw [if_neg c15] at H
            have c15b0 : decide (0 ≤ a1) = false := decide_eq_false c15
            clear c15
            (first | rw [c15b0] | (simp only [i64_w, i32_w]; rw [c15b0]) | skip)
            have H' := Aside0.mk H
            clear H
            go_wp2
            go_meet
            case rel => exact ⟨_, (false), (by first | rfl | (simp; done) | (simp [*]; done)), H', ⟨by have := HJ6.out; first | omega | exact Nat.le_refl _⟩, ⟨by repeat (first | (with_reducible first | exact HB.out | apply below_alloc | apply pw_below_drewN | apply below_drew1) | exact HB.out)⟩⟩
        case rest =>
          clear HC13
          try clear c1
          try clear c2
          try clear p2
          try clear c3
          try clear c5
          try clear c8
          try clear c8b0
          try clear c8b1
          try clear c9
          try clear c13
          try clear c15
          try clear c15b0
          try clear p2
          obtain ⟨kq, x15_12, rfl, HA, HJ12, HB⟩ := hcut
          cases kq with
          | zero => exact absurd HA.out (by simp [darninglaw3_GuardForms.j1])
          | succ kj12 =>
            have H := HA.out
            clear HA
            simp only [darninglaw3_GuardForms.j1] at H
            have HC16 := Aside0.mk H
            clear H
            go_upto_region 5 with (fail)
            go_cut [71] (fun v71 wc => ∃ (kq : Nat) (x71_15 : Bool), v71 = .bool x71_15 ∧ Aside0 (darninglaw3_GuardForms.j2 kq l0 a1 a2 a3 a4 l5 x71_15 = some true) ∧ Aside0 (kq ≤ kj12) ∧ Aside0 (Below w.heap.size w wc))
            case first =>
              have H := HC16.out
              clear HC16
              by_cases c17 : (t157 != x15_12) = true
              · rw [if_pos c17] at H
                have c17b0 : (t157 != x15_12) = true := c17
                (try (have c17b1 : decide (t157 = x15_12) = false := by simpa using c17))
                (try (have c17b2 : (t157 == x15_12) = false := by simpa using c17))
                (try (have c17b3 : ¬ (t157 = x15_12) := by simpa using c17))
                clear c17
                (first | rw [c17b0] | (simp only [i64_w, i32_w]; rw [c17b0]) | skip)
                have H' := Aside0.mk H
                clear H
                go_wp2
                go_meet
                case rel => exact ⟨_, (true), (by first | rfl | (simp; done) | (simp [*]; done)), H', ⟨by have := HJ6.out; have := HJ12.out; first | omega | exact Nat.le_refl _⟩, ⟨by repeat (first | (with_reducible first | exact HB.out | apply below_alloc | apply pw_below_drewN | apply below_drew1) | exact HB.out)⟩⟩
              · rw [if_neg c17] at H
                have c17b0 : (t157 != x15_12) = false := by simpa using c17
                (try (have c17b1 : decide (t157 = x15_12) = true := by simpa using c17))
                (try (have c17b2 : (t157 == x15_12) = true := by simpa using c17))
                clear c17
                (first | rw [c17b0] | (simp only [i64_w, i32_w]; rw [c17b0]) | skip)
                by_cases c18 : x15_12 = true
                · subst c18
                  have H1 : (if 0 ≤ a1 then (if a1 < (l0.length : Int) then (if t156 = (rd l0 a1) then (darninglaw3_GuardForms.j2 kj12 l0 a1 a2 a3 a4 l5 false) else (darninglaw3_GuardForms.j2 kj12 l0 a1 a2 a3 a4 l5 true)) else (none)) else (none)) = some true := by rw [if_pos rfl] at H; exact H
                  clear H
                  have H := H1
                  clear H1
                  by_cases c19 : 0 ≤ a1
                  · rw [if_pos c19] at H
                    have c19b0 : decide (0 ≤ a1) = true := decide_eq_true c19
                    clear c19
                    by_cases c20 : a1 < (l0.length : Int)
                    · rw [if_pos c20] at H
                      have c20b0 : decide (a1 < (l0.length : Int)) = true := decide_eq_true c20
                      clear c20
                      by_cases c21 : t156 = (rd l0 a1)
                      · rw [if_pos c21] at H
                        have c21b0 : (t156 == (rd l0 a1)) = true := beq_iff_eq.mpr c21
                        have c21b1 : (t156 != (rd l0 a1)) = false := bne_eq_false_iff_eq.mpr c21
                        clear c21
                        have H' := Aside0.mk H
                        clear H
                        have p158 : 0 ≤ (a1 : Int) := of_decide_eq_true (by first | (with_reducible assumption) | assumption)
                        have q158 : a1 < (l0.length : Int) := of_decide_eq_true (by first | (with_reducible assumption) | assumption)
                        obtain ⟨ad158, e158, hx158_0⟩ := Kd.at_int HR0.out a1 p158 q158
                        cases e158
                        replace hx158_0 := (HB.out.cell (World.block_lt_of_cell? w _ hx158_0)).trans hx158_0
                        replace p158 := eq_true p158
                        replace q158 := eq_true q158
                        go_wp2
                        go_meet
                        case rel => exact ⟨_, (false), (by first | rfl | (simp; done) | (simp [*]; done)), H', ⟨by have := HJ6.out; have := HJ12.out; first | omega | exact Nat.le_refl _⟩, ⟨by repeat (first | (with_reducible first | exact HB.out | apply below_alloc | apply pw_below_drewN | apply below_drew1) | exact HB.out)⟩⟩
                      · rw [if_neg c21] at H
                        have c21b0 : (t156 == (rd l0 a1)) = false := beq_eq_false_iff_ne.mpr c21
                        have c21b1 : (t156 != (rd l0 a1)) = true := bne_iff_ne.mpr c21
                        have H' := Aside0.mk H
                        clear H
                        have p158 : 0 ≤ (a1 : Int) := of_decide_eq_true (by first | (with_reducible assumption) | assumption)
                        have q158 : a1 < (l0.length : Int) := of_decide_eq_true (by first | (with_reducible assumption) | assumption)
                        obtain ⟨ad158, e158, hx158_0⟩ := Kd.at_int HR0.out a1 p158 q158
                        cases e158
                        replace hx158_0 := (HB.out.cell (World.block_lt_of_cell? w _ hx158_0)).trans hx158_0
                        replace p158 := eq_true p158
                        replace q158 := eq_true q158
                        go_wp2
                        go_meet
                        case rel => exact ⟨_, (true), (by first | rfl | (simp; done) | (simp [*]; done)), H', ⟨by have := HJ6.out; have := HJ12.out; first | omega | exact Nat.le_refl _⟩, ⟨by repeat (first | (with_reducible first | exact HB.out | apply below_alloc | apply pw_below_drewN | apply below_drew1) | exact HB.out)⟩⟩
                    · rw [if_neg c20] at H
                      exact absurd H (by simp)
                  · rw [if_neg c19] at H
                    exact absurd H (by simp)
                · replace c18 := Bool.eq_false_iff.mpr c18
                  subst c18
                  have H1 : (darninglaw3_GuardForms.j2 kj12 l0 a1 a2 a3 a4 l5 (t156 != 0)) = some true := by rw [if_neg (show ¬ (false = true) by decide)] at H; exact H
                  clear H
                  have H := H1
                  clear H1
                  have H' := Aside0.mk H
                  clear H
                  go_wp2
                  go_meet
                  case rel => exact ⟨_, ((t156 != 0)), (by first | rfl | (simp; done) | (simp [*]; done)), H', ⟨by have := HJ6.out; have := HJ12.out; first | omega | exact Nat.le_refl _⟩, ⟨by repeat (first | (with_reducible first | exact HB.out | apply below_alloc | apply pw_below_drewN | apply below_drew1) | exact HB.out)⟩⟩
            case rest =>
              clear HC16
              try clear c1
              try clear p1
              try clear q1
              try clear hx1
              try clear c2
              try clear p2
              try clear c3
              try clear c5
              try clear c8
              try clear c8b0
              try clear c8b1
              try clear c9
              try clear c13
              try clear c15
              try clear c15b0
              try clear p15
              try clear q15
              try clear hx15
              try clear c17
              try clear c17b0
              try clear c17b1
              try clear c17b2
              try clear c18
              try clear c19
              try clear c19b0
              try clear c20
              try clear c20b0
              try clear c21
              try clear c21b0
              try clear c21b1
              try clear hx158_0
              try clear p158
              try clear p2
              try clear q158
              obtain ⟨kq, x71_15, rfl, HA, HJ15, HB⟩ := hcut
              cases kq with
              | zero => exact absurd HA.out (by simp [darninglaw3_GuardForms.j2])
              | succ kj15 =>
                have H := HA.out
                clear HA
                simp only [darninglaw3_GuardForms.j2] at H
                by_cases c22 : x71_15 = true
                · subst c22
                  have H1 : (some false) = some true := by rw [if_pos rfl] at H; exact H
                  clear H
                  have H := H1
                  clear H1
                  exact absurd H (by simp)
                · replace c22 := Bool.eq_false_iff.mpr c22
                  subst c22
                  have H1 : ((guard_Slice.f l0 a1 a2).bind fun bt159 => (if a1 ≥ 0 then (if a2 ≥ a1 then (darninglaw3_GuardForms.j3 kj15 l0 a1 a2 a3 a4 l5 bt159.1 bt159.2 (decide (a2 ≤ (l0.length : Int)))) else (darninglaw3_GuardForms.j3 kj15 l0 a1 a2 a3 a4 l5 bt159.1 bt159.2 false)) else (darninglaw3_GuardForms.j3 kj15 l0 a1 a2 a3 a4 l5 bt159.1 bt159.2 false))) = some true := by rw [if_neg (show ¬ (false = true) by decide)] at H; exact H
                  clear H
                  have H := H1
                  clear H1
                  replace H := Option.bind_eq_some_iff.mp H
                  obtain ⟨⟨t159, t160⟩, A230, H⟩ := H
                  replace H : (if a1 ≥ 0 then (if a2 ≥ a1 then (darninglaw3_GuardForms.j3 kj15 l0 a1 a2 a3 a4 l5 t159 t160 (decide (a2 ≤ (l0.length : Int)))) else (darninglaw3_GuardForms.j3 kj15 l0 a1 a2 a3 a4 l5 t159 t160 false)) else (darninglaw3_GuardForms.j3 kj15 l0 a1 a2 a3 a4 l5 t159 t160 false)) = some true := H
                  have A23 := Aside0.mk A230
                  clear A230
                  have HC24 := Aside0.mk H
                  clear H
                  go_upto_region 8 with (first | ((with_reducible refine gate_callee (f := 32) rfl ?_); refine goesL_ (some 76) rfl rfl Try.func32 (by kernel_rfl) rfl #[.slice A0 l0.length c0, .int .i64 a1, .int .i64 a2] rfl (by (try simp only [List.map_toArray, List.map_cons, List.map_nil]); first | done | rfl | (simp only [List.length_drop, List.length_take]; rfl)) ?_; (with_reducible refine (guard_Slice.calls _ _ l0 a1 a2 t159 t160 _ ?side1 ?side2 A23.out).mono ?_); (case side1 => repeat (first | exact (Kd.C_below HR0.out HB.out) | (with_reducible refine Kd.C_alloc ?_ _) | (with_reducible refine Kd.C_drewN ?_ _) | (with_reducible refine Kd.C_drew ?_))); (case side2 => exact HC0.out); rintro e w25 ⟨v161, rfl, ho0, hb⟩; refine ⟨_, rfl, ?_⟩; have n0_ := Aside0.mk (Kd.R_lower ho0 (below_size (by repeat (first | (with_reducible first | exact HB.out | apply below_alloc | apply pw_below_drewN | apply below_drew1) | exact HB.out)))); have n1_ := Aside0.mk (below_step (by repeat (first | (with_reducible first | exact HB.out | apply below_alloc | apply pw_below_drewN | apply below_drew1) | exact HB.out)) hb); clear HB; have HO162 := n0_; have HB := n1_; clear n0_ n1_; (try clear hb); (try clear hb2); (try clear hk); (try clear hi); (try clear ho0)))
                  (try simp only [Act.put, List.setIfInBounds_toArray, List.set_cons_zero, List.set_cons_succ])
                  go_cut [18] (fun v18 wc => ∃ (kq : Nat) (x18_23 : Bool), v18 = .bool x18_23 ∧ Aside0 (darninglaw3_GuardForms.j3 kq l0 a1 a2 a3 a4 l5 t159 t160 x18_23 = some true) ∧ Aside0 (kq ≤ kj15) ∧ Aside0 (Kd.R (Kd.int .i64) 3 wc w.heap.size (fun _ => True) v161 t159) ∧ Aside0 (Below w.heap.size w wc))
                  case first =>
                    have H := HC24.out
                    clear HC24
                    by_cases c26 : a1 ≥ 0
                    · rw [if_pos c26] at H
                      have c26b0 : decide (0 ≤ a1) = true := decide_eq_true c26
                      clear c26
                      (first | rw [c26b0] | (simp only [i64_w, i32_w]; rw [c26b0]) | skip)
                      by_cases c27 : a2 ≥ a1
                      · rw [if_pos c27] at H
                        have c27b0 : decide (a1 ≤ a2) = true := decide_eq_true c27
                        clear c27
                        have H' := Aside0.mk H
                        clear H
                        go_wp2
                        go_meet
                        case rel => exact ⟨_, (decide (a2 ≤ (l0.length : Int))), (by first | rfl | (simp; done) | (simp [*]; done)), H', ⟨by have := HJ6.out; have := HJ12.out; have := HJ15.out; first | omega | exact Nat.le_refl _⟩, ⟨by (with_reducible repeat (first | apply Kd.R_alloc | apply Kd.R_drewN | apply Kd.R_drew)); exact HO162.out⟩, ⟨by repeat (first | (with_reducible first | exact HB.out | apply below_alloc | apply pw_below_drewN | apply below_drew1) | exact HB.out)⟩⟩
                      · rw [if_neg c27] at H
                        have c27b0 : decide (a1 ≤ a2) = false := decide_eq_false c27
                        clear c27
                        have H' := Aside0.mk H
                        clear H
                        go_wp2
                        go_meet
                        case rel => exact ⟨_, (false), (by first | rfl | (simp; done) | (simp [*]; done)), H', ⟨by have := HJ6.out; have := HJ12.out; have := HJ15.out; first | omega | exact Nat.le_refl _⟩, ⟨by (with_reducible repeat (first | apply Kd.R_alloc | apply Kd.R_drewN | apply Kd.R_drew)); exact HO162.out⟩, ⟨by repeat (first | (with_reducible first | exact HB.out | apply below_alloc | apply pw_below_drewN | apply below_drew1) | exact HB.out)⟩⟩
                    · rw [if_neg c26] at H
                      have c26b0 : decide (0 ≤ a1) = false := decide_eq_false c26
                      clear c26
                      (first | rw [c26b0] | (simp only [i64_w, i32_w]; rw [c26b0]) | skip)
                      have H' := Aside0.mk H
                      clear H
                      go_wp2
                      go_meet
                      case rel => exact ⟨_, (false), (by first | rfl | (simp; done) | (simp [*]; done)), H', ⟨by have := HJ6.out; have := HJ12.out; have := HJ15.out; first | omega | exact Nat.le_refl _⟩, ⟨by (with_reducible repeat (first | apply Kd.R_alloc | apply Kd.R_drewN | apply Kd.R_drew)); exact HO162.out⟩, ⟨by repeat (first | (with_reducible first | exact HB.out | apply below_alloc | apply pw_below_drewN | apply below_drew1) | exact HB.out)⟩⟩
                  case rest =>
                    clear HC24
                    try clear c1
                    try clear p1
                    try clear q1
                    try clear hx1
                    try clear c2
                    try clear p2
                    try clear c3
                    try clear c5
                    try clear c8
                    try clear c8b0
                    try clear c8b1
                    try clear c9
                    try clear c13
                    try clear c15
                    try clear c15b0
                    try clear p15
                    try clear q15
                    try clear hx15
                    try clear c17
                    try clear c17b0
                    try clear c17b1
                    try clear c17b2
                    try clear c18
                    try clear c19
                    try clear c19b0
                    try clear c20
                    try clear c20b0
                    try clear c21
                    try clear c21b0
                    try clear c21b1
                    try clear c22
                    try clear c26
                    try clear c26b0
                    try clear c27
                    try clear c27b0
                    try clear hx158_0
                    try clear p1
                    try clear p15
                    try clear p158
                    try clear p2
                    try clear q1
                    try clear q15
                    try clear q158
                    obtain ⟨kq, x18_23, rfl, HA, HJ23, HO_16, HB⟩ := hcut
                    cases kq with
                    | zero => exact absurd HA.out (by simp [darninglaw3_GuardForms.j3])
                    | succ kj23 =>
                      have H := HA.out
                      clear HA
                      simp only [darninglaw3_GuardForms.j3] at H
                      have HC28 := Aside0.mk H
                      clear H
                      go_upto_region 9 with (fail)
                      go_cut [115] (fun v115 wc => ∃ (kq : Nat) (x115_27 : Bool), v115 = .bool x115_27 ∧ Aside0 (darninglaw3_GuardForms.j4 kq l0 a3 a4 l5 x115_27 = some true) ∧ Aside0 (kq ≤ kj23) ∧ Aside0 (Below w.heap.size w wc))
                      case first =>
                        have H := HC28.out
                        clear HC28
                        by_cases c29 : (t160 != x18_23) = true
                        · rw [if_pos c29] at H
                          have c29b0 : (t160 != x18_23) = true := c29
                          (try (have c29b1 : decide (t160 = x18_23) = false := by simpa using c29))
                          (try (have c29b2 : (t160 == x18_23) = false := by simpa using c29))
                          (try (have c29b3 : ¬ (t160 = x18_23) := by simpa using c29))
                          clear c29
                          (first | rw [c29b0] | (simp only [i64_w, i32_w]; rw [c29b0]) | skip)
                          have H' := Aside0.mk H
                          clear H
                          go_wp2
                          go_meet
                          case rel => exact ⟨_, (true), (by first | rfl | (simp; done) | (simp [*]; done)), H', ⟨by have := HJ6.out; have := HJ12.out; have := HJ15.out; have := HJ23.out; first | omega | exact Nat.le_refl _⟩, ⟨by repeat (first | (with_reducible first | exact HB.out | apply below_alloc | apply pw_below_drewN | apply below_drew1) | exact HB.out)⟩⟩
                        · rw [if_neg c29] at H
                          have c29b0 : (t160 != x18_23) = false := by simpa using c29
                          (try (have c29b1 : decide (t160 = x18_23) = true := by simpa using c29))
                          (try (have c29b2 : (t160 == x18_23) = true := by simpa using c29))
                          clear c29
                          (first | rw [c29b0] | (simp only [i64_w, i32_w]; rw [c29b0]) | skip)
                          by_cases c30 : x18_23 = true
                          · subst c30
                            have H1 : (if 0 ≤ a1 then (if a1 ≤ a2 then (if a2 ≤ (l0.length : Int) then ((darningref1_Ints.f kj23 t159 ((l0.take (a2 : Int).toNat).drop (a1 : Int).toNat)).bind fun t164 => (if t164 = true then (darninglaw3_GuardForms.j4 kj23 l0 a3 a4 l5 false) else (darninglaw3_GuardForms.j4 kj23 l0 a3 a4 l5 true))) else (none)) else (none)) else (none)) = some true := by rw [if_pos rfl] at H; exact H
                            clear H
                            have H := H1
                            clear H1
                            by_cases c31 : 0 ≤ a1
                            · rw [if_pos c31] at H
                              have c31b0 := eq_true c31
                              have c31b1 : decide (0 ≤ a1) = true := decide_eq_true c31
                              clear c31
                              by_cases c32 : a1 ≤ a2
                              · rw [if_pos c32] at H
                                have c32b0 := eq_true c32
                                have c32b1 : decide (a1 ≤ a2) = true := decide_eq_true c32
                                clear c32
                                by_cases c33 : a2 ≤ (l0.length : Int)
                                · rw [if_pos c33] at H
                                  have c33b0 := eq_true c33
                                  have c33b1 : decide (a2 ≤ (l0.length : Int)) = true := decide_eq_true c33
                                  clear c33
                                  replace H := Option.bind_eq_some_iff.mp H
                                  obtain ⟨t164, A340, H⟩ := H
                                  replace H : (if t164 = true then (darninglaw3_GuardForms.j4 kj23 l0 a3 a4 l5 false) else (darninglaw3_GuardForms.j4 kj23 l0 a3 a4 l5 true)) = some true := H
                                  have A34 := Aside0.mk A340
                                  clear A340
                                  by_cases c35 : t164 = true
                                  · subst c35
                                    have H1 : (darninglaw3_GuardForms.j4 kj23 l0 a3 a4 l5 false) = some true := by rw [if_pos rfl] at H; exact H
                                    clear H
                                    have H := H1
                                    clear H1
                                    have H' := Aside0.mk H
                                    clear H
                                    obtain ⟨i036, hi036, _, hsz36, _⟩ := info_parts info3
                                    obtain ⟨A36, hcut36, hA36, hC36⟩ := print_mid_of (P := Try.prog) (Value.int .i64) 0 32 3 .i64 .i64 Try.underlying32 hi036 hsz36 A0 c0 l0 a1 a2 (of_decide_eq_true (by first | (with_reducible assumption) | assumption)) (by first | omega | exact of_decide_eq_true (by first | (with_reducible assumption) | assumption)) (of_decide_eq_true (by first | (with_reducible assumption) | assumption)) HC0.out
                                    have HR163 := Aside0.mk (Kd.C_of_reads (h1 := fun _ => rfl) (hA36 _ (Kd.reads_of_C HR0.out)))
                                    have HC163 := Aside0.mk hC36
                                    clear hA36 hC36 hi036 hsz36
                                    obtain ⟨Ao37, co37, eo37⟩ := Kd.R_slice HO_16.out
                                    subst eo37
                                    go_wp2_with (first | (go_at_call 30; refine calls_of_args (args' := #[.slice _ _ _, .slice _ ((l0.take (a2 : Int).toNat).drop (a1 : Int).toNat).length _]) (by rw [show ((l0.take (a2 : Int).toNat).drop (a1 : Int).toNat).length = a2.toNat - a1.toNat from by (have h_ : a2 ≤ (l0.length : Int) := of_decide_eq_true (by first | (with_reducible assumption) | assumption); rw [List.length_drop, List.length_take, Nat.min_eq_left (by omega)])]) ?_; (with_reducible refine (darningref1_Ints.calls kj23 _ _ t159 _ _ ((l0.take (a2 : Int).toNat).drop (a1 : Int).toNat) true _ ?side1 ?side2 ?side3 ?side4 A34.out).mono ?_); (case side1 => repeat (first | exact (Kd.R_reads' HO_16.out).2.2 | (with_reducible refine Kd.C_alloc ?_ _) | (with_reducible refine Kd.C_drewN ?_ _) | (with_reducible refine Kd.C_drew ?_))); (case side2 => exact (Kd.R_reads' HO_16.out).2.1); (case side3 => repeat (first | exact (Kd.C_below HR163.out HB.out) | (with_reducible refine Kd.C_alloc ?_ _) | (with_reducible refine Kd.C_drewN ?_ _) | (with_reducible refine Kd.C_drew ?_))); (case side4 => exact HC163.out); rintro e w' ⟨rfl, ⟨nd, rfl⟩⟩))
                                    go_meet
                                    case rel => exact ⟨_, (false), (by first | rfl | (simp; done) | (simp [*]; done)), H', ⟨by have := HJ6.out; have := HJ12.out; have := HJ15.out; have := HJ23.out; first | omega | exact Nat.le_refl _⟩, ⟨by repeat (first | (with_reducible first | exact HB.out | apply below_alloc | apply pw_below_drewN | apply below_drew1) | exact HB.out)⟩⟩
                                  · replace c35 := Bool.eq_false_iff.mpr c35
                                    subst c35
                                    have H1 : (darninglaw3_GuardForms.j4 kj23 l0 a3 a4 l5 true) = some true := by rw [if_neg (show ¬ (false = true) by decide)] at H; exact H
                                    clear H
                                    have H := H1
                                    clear H1
                                    have H' := Aside0.mk H
                                    clear H
                                    obtain ⟨i038, hi038, _, hsz38, _⟩ := info_parts info3
                                    obtain ⟨A38, hcut38, hA38, hC38⟩ := print_mid_of (P := Try.prog) (Value.int .i64) 0 32 3 .i64 .i64 Try.underlying32 hi038 hsz38 A0 c0 l0 a1 a2 (of_decide_eq_true (by first | (with_reducible assumption) | assumption)) (by first | omega | exact of_decide_eq_true (by first | (with_reducible assumption) | assumption)) (of_decide_eq_true (by first | (with_reducible assumption) | assumption)) HC0.out
                                    have HR163 := Aside0.mk (Kd.C_of_reads (h1 := fun _ => rfl) (hA38 _ (Kd.reads_of_C HR0.out)))
                                    have HC163 := Aside0.mk hC38
                                    clear hA38 hC38 hi038 hsz38
                                    obtain ⟨Ao39, co39, eo39⟩ := Kd.R_slice HO_16.out
                                    subst eo39
                                    go_wp2_with (first | (go_at_call 30; refine calls_of_args (args' := #[.slice _ _ _, .slice _ ((l0.take (a2 : Int).toNat).drop (a1 : Int).toNat).length _]) (by rw [show ((l0.take (a2 : Int).toNat).drop (a1 : Int).toNat).length = a2.toNat - a1.toNat from by (have h_ : a2 ≤ (l0.length : Int) := of_decide_eq_true (by first | (with_reducible assumption) | assumption); rw [List.length_drop, List.length_take, Nat.min_eq_left (by omega)])]) ?_; (with_reducible refine (darningref1_Ints.calls kj23 _ _ t159 _ _ ((l0.take (a2 : Int).toNat).drop (a1 : Int).toNat) false _ ?side1 ?side2 ?side3 ?side4 A34.out).mono ?_); (case side1 => repeat (first | exact (Kd.R_reads' HO_16.out).2.2 | (with_reducible refine Kd.C_alloc ?_ _) | (with_reducible refine Kd.C_drewN ?_ _) | (with_reducible refine Kd.C_drew ?_))); (case side2 => exact (Kd.R_reads' HO_16.out).2.1); (case side3 => repeat (first | exact (Kd.C_below HR163.out HB.out) | (with_reducible refine Kd.C_alloc ?_ _) | (with_reducible refine Kd.C_drewN ?_ _) | (with_reducible refine Kd.C_drew ?_))); (case side4 => exact HC163.out); rintro e w' ⟨rfl, ⟨nd, rfl⟩⟩))
                                    go_meet
                                    case rel => exact ⟨_, (true), (by first | rfl | (simp; done) | (simp [*]; done)), H', ⟨by have := HJ6.out; have := HJ12.out; have := HJ15.out; have := HJ23.out; first | omega | exact Nat.le_refl _⟩, ⟨by repeat (first | (with_reducible first | exact HB.out | apply below_alloc | apply pw_below_drewN | apply below_drew1) | exact HB.out)⟩⟩
                                · rw [if_neg c33] at H
                                  exact absurd H (by simp)
                              · rw [if_neg c32] at H
                                exact absurd H (by simp)
                            · rw [if_neg c31] at H
                              exact absurd H (by simp)
                          · replace c30 := Bool.eq_false_iff.mpr c30
                            subst c30
                            have H1 : (darninglaw3_GuardForms.j4 kj23 l0 a3 a4 l5 ((t159.length : Int) != 0)) = some true := by rw [if_neg (show ¬ (false = true) by decide)] at H; exact H
                            clear H
                            have H := H1
                            clear H1
                            have H' := Aside0.mk H
                            clear H
                            obtain ⟨Ao40, co40, eo40⟩ := Kd.R_slice HO_16.out
                            subst eo40
                            go_wp2
                            go_meet
                            case rel => exact ⟨_, (((t159.length : Int) != 0)), (by first | rfl | (simp; done) | (simp [*]; done)), H', ⟨by have := HJ6.out; have := HJ12.out; have := HJ15.out; have := HJ23.out; first | omega | exact Nat.le_refl _⟩, ⟨by repeat (first | (with_reducible first | exact HB.out | apply below_alloc | apply pw_below_drewN | apply below_drew1) | exact HB.out)⟩⟩
                      case rest =>
                        clear HC28
                        try clear c1
                        try clear p1
                        try clear q1
                        try clear hx1
                        try clear c2
                        try clear p2
                        try clear c3
                        try clear c5
                        try clear c8
                        try clear c8b0
                        try clear c8b1
                        try clear c9
                        try clear c13
                        try clear c15
                        try clear c15b0
                        try clear p15
                        try clear q15
                        try clear hx15
                        try clear c17
                        try clear c17b0
                        try clear c17b1
                        try clear c17b2
                        try clear c18
                        try clear c19
                        try clear c19b0
                        try clear c20
                        try clear c20b0
                        try clear c21
                        try clear c21b0
                        try clear c21b1
                        try clear c22
                        try clear c26
                        try clear c26b0
                        try clear c27
                        try clear c27b0
                        try clear c28
                        try clear c29
                        try clear c29b0
                        try clear c29b1
                        try clear c29b2
                        try clear c30
                        try clear c31
                        try clear c31b0
                        try clear c31b1
                        try clear c32
                        try clear c32b0
                        try clear c32b1
                        try clear c33
                        try clear c33b0
                        try clear c33b1
                        try clear c35
                        try clear hx158_0
                        try clear p1
                        try clear p15
                        try clear p158
                        try clear p2
                        try clear q1
                        try clear q15
                        try clear q158
                        obtain ⟨kq, x115_27, rfl, HA, HJ27, HB⟩ := hcut
                        cases kq with
                        | zero => exact absurd HA.out (by simp [darninglaw3_GuardForms.j4])
                        | succ kj27 =>
                          have H := HA.out
                          clear HA
                          simp only [darninglaw3_GuardForms.j4] at H
                          by_cases c41 : x115_27 = true
                          · subst c41
                            have H1 : (some false) = some true := by rw [if_pos rfl] at H; exact H
                            clear H
                            have H := H1
                            clear H1
                            exact absurd H (by simp)
                          · replace c41 := Bool.eq_false_iff.mpr c41
                            subst c41
                            have H1 : ((guard_Div.f a3 a4).bind fun bt165 => (if (bt165.2 != (a4 != 0)) = true then (darninglaw3_GuardForms.j5 kj27 l0 l5 true) else (if a4 = 0 then (darninglaw3_GuardForms.j5 kj27 l0 l5 (bt165.1 != 0)) else (if bt165.1 = (wrap64 (Int.tdiv a3 a4)) then (darninglaw3_GuardForms.j5 kj27 l0 l5 false) else (darninglaw3_GuardForms.j5 kj27 l0 l5 true))))) = some true := by rw [if_neg (show ¬ (false = true) by decide)] at H; exact H
                            clear H
                            have H := H1
                            clear H1
                            replace H := Option.bind_eq_some_iff.mp H
                            obtain ⟨⟨t165, t166⟩, A420, H⟩ := H
                            replace H : (if (t166 != (a4 != 0)) = true then (darninglaw3_GuardForms.j5 kj27 l0 l5 true) else (if a4 = 0 then (darninglaw3_GuardForms.j5 kj27 l0 l5 (t165 != 0)) else (if t165 = (wrap64 (Int.tdiv a3 a4)) then (darninglaw3_GuardForms.j5 kj27 l0 l5 false) else (darninglaw3_GuardForms.j5 kj27 l0 l5 true)))) = some true := H
                            have A42 := Aside0.mk A420
                            clear A420
                            have HC43 := Aside0.mk H
                            clear H
                            go_upto_region 12 with (first | ((with_reducible refine gate_callee (f := 33) rfl ?_); refine goesL_ (some 119) rfl rfl Try.func33 (by kernel_rfl) rfl #[.int .i64 a3, .int .i64 a4] rfl (by (try simp only [List.map_toArray, List.map_cons, List.map_nil]); first | done | rfl | (simp only [List.length_drop, List.length_take]; rfl)) ?_; (with_reducible refine (guard_Div.calls a3 a4 t165 t166 _ A42.out).mono ?_); rintro e w44 ⟨rfl, hb⟩; refine ⟨_, rfl, ?_⟩; have n0_ := Aside0.mk (below_step (by repeat (first | (with_reducible first | exact HB.out | apply below_alloc | apply pw_below_drewN | apply below_drew1) | exact HB.out)) hb); clear HB; have HB := n0_; clear n0_; (try clear hb); (try clear hb2); (try clear hk); (try clear hi)))
                            (try simp only [Act.put, List.setIfInBounds_toArray, List.set_cons_zero, List.set_cons_succ])
                            go_cut [144] (fun v144 wc => ∃ (kq : Nat) (x144_42 : Bool), v144 = .bool x144_42 ∧ Aside0 (darninglaw3_GuardForms.j5 kq l0 l5 x144_42 = some true) ∧ Aside0 (kq ≤ kj27) ∧ Aside0 (Below w.heap.size w wc))
                            case first =>
                              have H := HC43.out
                              clear HC43
                              by_cases c45 : (t166 != (a4 != 0)) = true
                              · rw [if_pos c45] at H
                                have c45b0 : (t166 != (a4 != 0)) = true := c45
                                (try (have c45b1 : decide (t166 = (a4 != 0)) = false := by simpa using c45))
                                (try (have c45b2 : (t166 == (a4 != 0)) = false := by simpa using c45))
                                (try (have c45b3 : ¬ (t166 = (a4 != 0)) := by simpa using c45))
                                clear c45
                                (first | rw [c45b0] | (simp only [i64_w, i32_w]; rw [c45b0]) | skip)
                                have H' := Aside0.mk H
                                clear H
                                go_wp2
                                go_meet
                                case rel => exact ⟨_, (true), (by first | rfl | (simp; done) | (simp [*]; done)), H', ⟨by have := HJ6.out; have := HJ12.out; have := HJ15.out; have := HJ23.out; have := HJ27.out; first | omega | exact Nat.le_refl _⟩, ⟨by repeat (first | (with_reducible first | exact HB.out | apply below_alloc | apply pw_below_drewN | apply below_drew1) | exact HB.out)⟩⟩
                              · rw [if_neg c45] at H
                                have c45b0 : (t166 != (a4 != 0)) = false := by simpa using c45
                                (try (have c45b1 : decide (t166 = (a4 != 0)) = true := by simpa using c45))
                                (try (have c45b2 : (t166 == (a4 != 0)) = true := by simpa using c45))
                                clear c45
                                (first | rw [c45b0] | (simp only [i64_w, i32_w]; rw [c45b0]) | skip)
                                by_cases c46 : a4 = 0
                                · rw [if_pos c46] at H
                                  have c46b0 : (a4 == 0) = true := beq_iff_eq.mpr c46
                                  have c46b1 : (a4 != 0) = false := bne_eq_false_iff_eq.mpr c46
                                  (obtain rfl : t166 = false := by revert c45b0; rw [c46b1]; cases t166 <;> decide)
                                  clear c46
                                  have H' := Aside0.mk H
                                  clear H
                                  go_wp2
                                  go_meet
                                  case rel => exact ⟨_, ((t165 != 0)), (by first | rfl | (simp; done) | (simp [*]; done)), H', ⟨by have := HJ6.out; have := HJ12.out; have := HJ15.out; have := HJ23.out; have := HJ27.out; first | omega | exact Nat.le_refl _⟩, ⟨by repeat (first | (with_reducible first | exact HB.out | apply below_alloc | apply pw_below_drewN | apply below_drew1) | exact HB.out)⟩⟩
                                · rw [if_neg c46] at H
                                  have c46b0 : (a4 == 0) = false := beq_eq_false_iff_ne.mpr c46
                                  have c46b1 : (a4 != 0) = true := bne_iff_ne.mpr c46
                                  (obtain rfl : t166 = true := by revert c45b0; rw [c46b1]; cases t166 <;> decide)
                                  by_cases c47 : t165 = (wrap64 (Int.tdiv a3 a4))
                                  · rw [if_pos c47] at H
                                    have c47b0 : (t165 == (wrap64 (Int.tdiv a3 a4))) = true := beq_iff_eq.mpr c47
                                    have c47b1 : (t165 != (wrap64 (Int.tdiv a3 a4))) = false := bne_eq_false_iff_eq.mpr c47
                                    clear c47
                                    have H' := Aside0.mk H
                                    clear H
                                    go_wp2
                                    go_meet
                                    case rel => exact ⟨_, (false), (by first | rfl | (simp; done) | (simp [*]; done)), H', ⟨by have := HJ6.out; have := HJ12.out; have := HJ15.out; have := HJ23.out; have := HJ27.out; first | omega | exact Nat.le_refl _⟩, ⟨by repeat (first | (with_reducible first | exact HB.out | apply below_alloc | apply pw_below_drewN | apply below_drew1) | exact HB.out)⟩⟩
                                  · rw [if_neg c47] at H
                                    have c47b0 : (t165 == (wrap64 (Int.tdiv a3 a4))) = false := beq_eq_false_iff_ne.mpr c47
                                    have c47b1 : (t165 != (wrap64 (Int.tdiv a3 a4))) = true := bne_iff_ne.mpr c47
                                    have H' := Aside0.mk H
                                    clear H
                                    go_wp2
                                    go_meet
                                    case rel => exact ⟨_, (true), (by first | rfl | (simp; done) | (simp [*]; done)), H', ⟨by have := HJ6.out; have := HJ12.out; have := HJ15.out; have := HJ23.out; have := HJ27.out; first | omega | exact Nat.le_refl _⟩, ⟨by repeat (first | (with_reducible first | exact HB.out | apply below_alloc | apply pw_below_drewN | apply below_drew1) | exact HB.out)⟩⟩
                            case rest =>
                              clear HC43
                              try clear c1
                              try clear p1
                              try clear q1
                              try clear hx1
                              try clear c2
                              try clear p2
                              try clear c3
                              try clear c4
                              try clear c5
                              try clear p6
                              try clear c8
                              try clear c8b0
                              try clear c8b1
                              try clear c9
                              try clear c13
                              try clear c15
                              try clear c15b0
                              try clear p15
                              try clear q15
                              try clear hx15
                              try clear c17
                              try clear c17b0
                              try clear c17b1
                              try clear c17b2
                              try clear c18
                              try clear c19
                              try clear c19b0
                              try clear c20
                              try clear c20b0
                              try clear c21
                              try clear c21b0
                              try clear c21b1
                              try clear c22
                              try clear c26
                              try clear c26b0
                              try clear c27
                              try clear c27b0
                              try clear c28
                              try clear c29
                              try clear c29b0
                              try clear c29b1
                              try clear c29b2
                              try clear c30
                              try clear c31
                              try clear c31b0
                              try clear c31b1
                              try clear c32
                              try clear c32b0
                              try clear c32b1
                              try clear c33
                              try clear c33b0
                              try clear c33b1
                              try clear c35
                              try clear c41
                              try clear c45
                              try clear c45b0
                              try clear c45b1
                              try clear c45b2
                              try clear c46
                              try clear c46b0
                              try clear c46b1
                              try clear c47
                              try clear c47b0
                              try clear c47b1
                              try clear hx158_0
                              try clear p1
                              try clear p15
                              try clear p158
                              try clear p2
                              try clear q1
                              try clear q15
                              try clear q158
                              obtain ⟨kq, x144_42, rfl, HA, HJ42, HB⟩ := hcut
                              cases kq with
                              | zero => exact absurd HA.out (by simp [darninglaw3_GuardForms.j5])
                              | succ kj42 =>
                                have H := HA.out
                                clear HA
                                simp only [darninglaw3_GuardForms.j5] at H
                                by_cases c48 : x144_42 = true
                                · subst c48
                                  have H1 : (some false) = some true := by rw [if_pos rfl] at H; exact H
                                  clear H
                                  have H := H1
                                  clear H1
                                  exact absurd H (by simp)
                                · replace c48 := Bool.eq_false_iff.mpr c48
                                  subst c48
                                  have H1 : ((guard_Run.f l0 l5).bind fun bt167 => ((darningref1_Run.f kj42 l0 l5).bind fun bt172 => ((darningref1_Ints.f kj42 bt167.1 bt172.1).bind fun t177 => (if t177 = true then (if bt167.2.1 = bt172.2.1 then (if (bt167.2.2 == bt172.2.2) = true then ((darninglaw3_awake.f).bind fun t178 => (some t178)) else (some false)) else (some false)) else (some false))))) = some true := by rw [if_neg (show ¬ (false = true) by decide)] at H; exact H
                                  clear H
                                  have H := H1
                                  clear H1
                                  replace H := Option.bind_eq_some_iff.mp H
                                  obtain ⟨⟨t167, t168, t169⟩, A490, H⟩ := H
                                  replace H : ((darningref1_Run.f kj42 l0 l5).bind fun bt172 => ((darningref1_Ints.f kj42 t167 bt172.1).bind fun t177 => (if t177 = true then (if t168 = bt172.2.1 then (if (t169 == bt172.2.2) = true then ((darninglaw3_awake.f).bind fun t178 => (some t178)) else (some false)) else (some false)) else (some false)))) = some true := H
                                  have A49 := Aside0.mk A490
                                  clear A490
                                  replace H := Option.bind_eq_some_iff.mp H
                                  obtain ⟨⟨t172, t173, t174⟩, A500, H⟩ := H
                                  replace H : ((darningref1_Ints.f kj42 t167 t172).bind fun t177 => (if t177 = true then (if t168 = t173 then (if (t169 == t174) = true then ((darninglaw3_awake.f).bind fun t178 => (some t178)) else (some false)) else (some false)) else (some false))) = some true := H
                                  have A50 := Aside0.mk A500
                                  clear A500
                                  replace H := Option.bind_eq_some_iff.mp H
                                  obtain ⟨t177, A510, H⟩ := H
                                  replace H : (if t177 = true then (if t168 = t173 then (if (t169 == t174) = true then ((darninglaw3_awake.f).bind fun t178 => (some t178)) else (some false)) else (some false)) else (some false)) = some true := H
                                  have A51 := Aside0.mk A510
                                  clear A510
                                  by_cases c52 : t177 = true
                                  · subst c52
                                    have H1 : (if t168 = t173 then (if (t169 == t174) = true then ((darninglaw3_awake.f).bind fun t178 => (some t178)) else (some false)) else (some false)) = some true := by rw [if_pos rfl] at H; exact H
                                    clear H
                                    have H := H1
                                    clear H1
                                    by_cases c53 : t168 = t173
                                    · rw [if_pos c53] at H
                                      have c53b0 : (t168 == t173) = true := beq_iff_eq.mpr c53
                                      have c53b1 : (t168 != t173) = false := bne_eq_false_iff_eq.mpr c53
                                      clear c53
                                      by_cases c54 : (t169 == t174) = true
                                      · rw [if_pos c54] at H
                                        have c54b0 : (t169 == t174) = true := c54
                                        (try (have c54b1 : decide (t169 = t174) = true := by simpa using c54))
                                        (try (have c54b2 : (t169 == t174) = true := by simpa using c54))
                                        clear c54
                                        replace H := Option.bind_eq_some_iff.mp H
                                        obtain ⟨t178, A550, H⟩ := H
                                        replace H : (some t178) = some true := H
                                        have A55 := Aside0.mk A550
                                        clear A550
                                        obtain rfl : t178 = true := Option.some.inj H
                                        go_wp2_with (first | ((with_reducible refine gate_callee (f := 29) rfl ?_); refine goesL_ (some 148) rfl rfl Try.func29 (by kernel_rfl) rfl #[.slice A0 l0.length c0, .slice A5 l5.length c5] rfl (by (try simp only [List.map_toArray, List.map_cons, List.map_nil]); first | done | rfl | (simp only [List.length_drop, List.length_take]; rfl)) ?_; (with_reducible refine (guard_Run.calls _ _ l0 _ _ l5 t167 t168 t169 _ ?side1 ?side2 ?side3 ?side4 A49.out).mono ?_); (case side1 => repeat (first | exact (Kd.C_below HR0.out HB.out) | (with_reducible refine Kd.C_alloc ?_ _) | (with_reducible refine Kd.C_drewN ?_ _) | (with_reducible refine Kd.C_drew ?_))); (case side2 => exact HC0.out); (case side3 => repeat (first | exact (Kd.C_below HR5.out HB.out) | (with_reducible refine Kd.C_alloc ?_ _) | (with_reducible refine Kd.C_drewN ?_ _) | (with_reducible refine Kd.C_drew ?_))); (case side4 => exact HC5.out); rintro e w56 ⟨v170, rfl, ho0, hb⟩; refine ⟨_, rfl, ?_⟩; have n0_ := Aside0.mk (Kd.R_lower ho0 (below_size (by repeat (first | (with_reducible first | exact HB.out | apply below_alloc | apply pw_below_drewN | apply below_drew1) | exact HB.out)))); have n1_ := Aside0.mk (below_step (by repeat (first | (with_reducible first | exact HB.out | apply below_alloc | apply pw_below_drewN | apply below_drew1) | exact HB.out)) hb); clear HB; have HO171 := n0_; have HB := n1_; clear n0_ n1_; (try clear hb); (try clear hb2); (try clear hk); (try clear hi); (try clear ho0)) | ((with_reducible refine gate_callee (f := 34) rfl ?_); refine goesL_ (some 155) rfl rfl Try.func34 (by kernel_rfl) rfl #[.slice A0 l0.length c0, .slice A5 l5.length c5] rfl (by (try simp only [List.map_toArray, List.map_cons, List.map_nil]); first | done | rfl | (simp only [List.length_drop, List.length_take]; rfl)) ?_; (with_reducible refine (darningref1_Run.calls kj42 _ _ l0 _ _ l5 t172 t173 t174 _ ?side1 ?side2 ?side3 ?side4 A50.out).mono ?_); (case side1 => repeat (first | exact (Kd.C_below HR0.out HB.out) | (with_reducible refine Kd.C_alloc ?_ _) | (with_reducible refine Kd.C_drewN ?_ _) | (with_reducible refine Kd.C_drew ?_))); (case side2 => exact HC0.out); (case side3 => repeat (first | exact (Kd.C_below HR5.out HB.out) | (with_reducible refine Kd.C_alloc ?_ _) | (with_reducible refine Kd.C_drewN ?_ _) | (with_reducible refine Kd.C_drew ?_))); (case side4 => exact HC5.out); rintro e w57 ⟨v175, rfl, ho0, hb⟩; refine ⟨_, rfl, ?_⟩; have n0_ := Aside0.mk (Kd.R_elder' (by (with_reducible repeat (first | apply Kd.R_alloc | apply Kd.R_drewN | apply Kd.R_drew)); exact HO171.out) (Kd.R_base ho0) hb); have n1_ := Aside0.mk (Kd.R_lower (Kd.R_new' ho0 (Kd.R_lt (by (with_reducible repeat (first | apply Kd.R_alloc | apply Kd.R_drewN | apply Kd.R_drew)); exact HO171.out))) (below_size (by repeat (first | (with_reducible first | exact HB.out | apply below_alloc | apply pw_below_drewN | apply below_drew1) | exact HB.out)))); have n2_ := Aside0.mk (below_step (by repeat (first | (with_reducible first | exact HB.out | apply below_alloc | apply pw_below_drewN | apply below_drew1) | exact HB.out)) hb); clear HO171; clear HB; have HO171 := n0_; have HO176 := n1_; have HB := n2_; clear n0_ n1_ n2_; (try clear hb); (try clear hb2); (try clear hk); (try clear hi); (try clear ho0); obtain ⟨Ao58, co58, eo58⟩ := Kd.R_slice HO171.out; subst eo58; obtain ⟨Ao59, co59, eo59⟩ := Kd.R_slice HO176.out; subst eo59) | ((with_reducible refine gate_callee (f := 30) rfl ?_); refine goesL_ (some 161) rfl rfl Try.func30 (by kernel_rfl) rfl #[.slice Ao58 t167.length co58, .slice Ao59 t172.length co59] rfl (by (try simp only [List.map_toArray, List.map_cons, List.map_nil]); first | done | rfl | (simp only [List.length_drop, List.length_take]; rfl)) ?_; (with_reducible refine (darningref1_Ints.calls kj42 _ _ t167 _ _ t172 true _ ?side1 ?side2 ?side3 ?side4 A51.out).mono ?_); (case side1 => repeat (first | exact (Kd.R_reads' HO171.out).2.2 | (with_reducible refine Kd.C_alloc ?_ _) | (with_reducible refine Kd.C_drewN ?_ _) | (with_reducible refine Kd.C_drew ?_))); (case side2 => exact (Kd.R_reads' HO171.out).2.1); (case side3 => repeat (first | exact (Kd.R_reads' HO176.out).2.2 | (with_reducible refine Kd.C_alloc ?_ _) | (with_reducible refine Kd.C_drewN ?_ _) | (with_reducible refine Kd.C_drew ?_))); (case side4 => exact (Kd.R_reads' HO176.out).2.1); rintro e w' ⟨rfl, ⟨nd, rfl⟩⟩; refine ⟨_, rfl, ?_⟩) | (go_at_call 28; (with_reducible refine (darninglaw3_awake.calls  true _ A55.out).mono ?_); rintro e w60 ⟨rfl, hb⟩; have n0_ := Aside0.mk (Kd.R_below (by (with_reducible repeat (first | apply Kd.R_alloc | apply Kd.R_drewN | apply Kd.R_drew)); exact HO171.out) hb); have n1_ := Aside0.mk (Kd.R_below (by (with_reducible repeat (first | apply Kd.R_alloc | apply Kd.R_drewN | apply Kd.R_drew)); exact HO176.out) hb); have n2_ := Aside0.mk (below_step (by repeat (first | (with_reducible first | exact HB.out | apply below_alloc | apply pw_below_drewN | apply below_drew1) | exact HB.out)) hb); clear HO171; clear HO176; clear HB; have HO171 := n0_; have HO176 := n1_; have HB := n2_; clear n0_ n1_ n2_; (try clear hb); (try clear hb2); (try clear hk); (try clear hi)))
                                        go_ret
                                        exact ⟨by first | rfl | (rw [HRA_.out]) | (simp only [HRA_.out]; done) | (simp only [← HRA_.out]; done) | (have HR_ := HRA_.out; simp_all) | (simp [errW_none, errW_some] <;> rfl) | (simp [*, errW_none, errW_some] <;> rfl), by repeat (first | (with_reducible first | exact HB.out | apply below_alloc | apply pw_below_drewN | apply below_drew1) | exact HB.out)⟩
                                      · rw [if_neg c54] at H
                                        have c54b0 : (t169 == t174) = false := by simpa using c54
                                        (try (have c54b1 : decide (t169 = t174) = false := by simpa using c54))
                                        (try (have c54b2 : (t169 == t174) = false := by simpa using c54))
                                        (try (have c54b3 : ¬ (t169 = t174) := by simpa using c54))
                                        clear c54
                                        exact absurd H (by simp)
                                    · rw [if_neg c53] at H
                                      have c53b0 : (t168 == t173) = false := beq_eq_false_iff_ne.mpr c53
                                      have c53b1 : (t168 != t173) = true := bne_iff_ne.mpr c53
                                      exact absurd H (by simp)
                                  · replace c52 := Bool.eq_false_iff.mpr c52
                                    subst c52
                                    have H1 : (some false) = some true := by rw [if_neg (show ¬ (false = true) by decide)] at H; exact H
                                    clear H
                                    have H := H1
                                    clear H1
                                    exact absurd H (by simp)
/-- What a value of type 50 that is read fits. -/
def wfT50 (x : S50) : Prop := (Lit.int .i64 x.f0).wf = true ∧ (Lit.int .i64 x.f1).wf = true

/-- THE ONE PURE STATEMENT of darninglaw3_GuardForms. -/
def darninglaw3_GuardForms.Pure : Prop := ∀ (l0 : List Int) (a1 : Int) (a2 : Int) (a3 : Int) (a4 : Int) (l5 : List (S50)), l0.length ≤ maxLen → l0.length * 8 ≤ 140737488351232 → (∀ x ∈ l0, (Lit.int .i64 x).wf = true) → (Lit.int .i64 a1).wf = true → (Lit.int .i64 a2).wf = true → (Lit.int .i64 a3).wf = true → (Lit.int .i64 a4).wf = true → l5.length ≤ maxLen → l5.length * 16 ≤ 140737488351232 → (∀ x ∈ l5, wfT50 x) → ∃ k, darninglaw3_GuardForms.f k l0 a1 a2 a3 a4 l5 = some true
theorem darninglaw3_GuardForms.walk (P : darninglaw3_GuardForms.Pure) (A0 : Option Addr) (c0 : Nat) (l0 : List Int) (a1 : Int) (a2 : Int) (a3 : Int) (a4 : Int) (A5 : Option Addr) (c5 : Nat) (l5 : List (S50)) (w : World) (hr0 : Kd.C (Kd.int .i64) w A0 l0.length l0) (hc0 : l0.length ≤ c0) (hr5 : Kd.C k50 w A5 l5.length l5) (hc5 : l5.length ≤ c5) (hm0 : l0.length ≤ maxLen) (y0 : l0.length * 8 ≤ 140737488351232) (hw0 : (∀ x ∈ l0, (Lit.int .i64 x).wf = true)) (w1 : (Lit.int .i64 a1).wf = true) (w2 : (Lit.int .i64 a2).wf = true) (w3 : (Lit.int .i64 a3).wf = true) (w4 : (Lit.int .i64 a4).wf = true) (hm5 : l5.length ≤ maxLen) (y5 : l5.length * 16 ≤ 140737488351232) (hw5 : (∀ x ∈ l5, wfT50 x)) :
    Calls Try.prog 13 #[.slice A0 l0.length c0, .int .i64 a1, .int .i64 a2, .int .i64 a3, .int .i64 a4, .slice A5 l5.length c5] w fun e w' => e = .returned (.bool true) ∧ Below w.heap.size w w' := by
  obtain ⟨k, h⟩ := P l0 a1 a2 a3 a4 l5 hm0 y0 hw0 w1 w2 w3 w4 hm5 y5 hw5
  refine (darninglaw3_GuardForms.calls k A0 c0 l0 a1 a2 a3 a4 A5 c5 l5 w hr0 hc0 hr5 hc5 h).mono ?_
  rintro e w' ⟨rfl, hd⟩
  exact ⟨rfl, hd⟩

end Go.Proofs.Ytjmlbkbjmeeplab.XGuardForms
