-- Laid by this session's own printer (wip/xprint.py): each Go function that the law reaches as a plain Lean function, and that the call comes to it.
import Derived.Test.YtjmlbkbjmeeplabXFitBestx0
import Derived.Test.YtjmlbkbjmeeplabXFitBestx1
import Derived.Test.YtjmlbkbjmeeplabXFitBestx2
import Derived.Test.YtjmlbkbjmeeplabXFitBestx3
namespace Go.Proofs.Ytjmlbkbjmeeplab.XFitBest
open Go.RowKit Go.Proofs.YtjmlbkbjmeeplabW.PrintWords Go.Proofs.YtjmlbkbjmeeplabW.PrintLast Go.Proofs.YtjmlbkbjmeeplabW.PrintMore
attribute [local go_sem] max2_int min2_int max_two min_two max_three min_three max_four min_four   -- for this text's walks alone
set_option linter.unusedVariables false
set_option linter.unusedSimpArgs false

/-! ### darninglaw15_FitBest: function 5 -/
mutual
def darninglaw15_FitBest.j0 : Nat → List (S35) → Int → List Int → Bool → Option (Bool)
  | 0, _, _, _, _ => none
  | k + 1, x0, x1, x2, x23 => if x23 = true then ((darninglaw15_awake.f k).bind fun t140 => (some t140)) else ((fit_Choose.f k x0 (wrap64 (2 + (wrap64 (Int.tmod (IntKind.u64.wrap (x1)) 60)))) x2).bind fun t141 => (darninglaw15_FitBest.l0 k x0 (wrap64 (2 + (wrap64 (Int.tmod (IntKind.u64.wrap (x1)) 60)))) x2 t141 false x0 (x0.length : Int) 0))
def darninglaw15_FitBest.l0 : Nat → List (S35) → Int → List Int → Int → Bool → List (S35) → Int → Int → Option (Bool)
  | 0, _, _, _, _, _, _, _, _ => none
  | k + 1, x0, x1, x2, x7, x8, x34, x35, x36 => if x36 < x35 then (if 0 ≤ x36 then (if x36 < (x34.length : Int) then (if x8 = true then (darninglaw15_FitBest.l0 k x0 x1 x2 x7 true x34 x35 (wrap64 (x36 + 1))) else (if ((rd_T35 x34 x36).f2 = true) then (darninglaw15_FitBest.l0 k x0 x1 x2 x7 false x34 x35 (wrap64 (x36 + 1))) else (darninglaw15_FitBest.l0 k x0 x1 x2 x7 (decide (((rd_T35 x34 x36).f1) ≥ x1)) x34 x35 (wrap64 (x36 + 1))))) else (none)) else (none)) else (if x8 = true then (if x7 < 0 then (darninglaw15_FitBest.j2 k x0 x1 x2 x7 true) else (if x7 ≥ (x0.length : Int) then (darninglaw15_FitBest.j2 k x0 x1 x2 x7 true) else (if 0 ≤ x7 then (if x7 < (x0.length : Int) then (if (rd_T35 x0 x7).f2 = true then (darninglaw15_FitBest.j2 k x0 x1 x2 x7 true) else (darninglaw15_FitBest.j2 k x0 x1 x2 x7 (decide (((rd_T35 x0 x7).f1) < x1)))) else (none)) else (none)))) else (if x7 = (-1) then ((fit_Fits.f k x0 x1).bind fun t144 => (if (t144.length : Int) = 0 then ((darninglaw15_awake.f k).bind fun t147 => (some t147)) else (some false))) else (some false)))
def darninglaw15_FitBest.j2 : Nat → List (S35) → Int → List Int → Int → Bool → Option (Bool)
  | 0, _, _, _, _, _ => none
  | k + 1, x0, x1, x2, x7, x90 => if x90 = true then (some false) else ((fit_Fits.f k x0 x1).bind fun t150 => (darninglaw15_FitBest.l1 k x0 x1 x2 x7 false t150 (t150.length : Int) 0))
def darninglaw15_FitBest.l1 : Nat → List (S35) → Int → List Int → Int → Bool → List Int → Int → Int → Option (Bool)
  | 0, _, _, _, _, _, _, _, _ => none
  | k + 1, x0, x1, x2, x7, x11, x93, x94, x95 => if x95 < x94 then (if 0 ≤ x95 then (if x95 < (x93.length : Int) then (if (rd x93 x95) < 0 then (darninglaw15_FitBest.j4 k x0 x1 x2 x7 x11 (rd x93 x95) x93 x94 x95 true) else (if (rd x93 x95) ≥ (x0.length : Int) then (darninglaw15_FitBest.j4 k x0 x1 x2 x7 x11 (rd x93 x95) x93 x94 x95 true) else (if 0 ≤ (rd x93 x95) then (if (rd x93 x95) < (x0.length : Int) then (if 0 ≤ x7 then (if x7 < (x0.length : Int) then (darninglaw15_FitBest.j4 k x0 x1 x2 x7 x11 (rd x93 x95) x93 x94 x95 (((rd_T35 x0 (rd x93 x95)).f1) != ((rd_T35 x0 x7).f1))) else (none)) else (none)) else (none)) else (none)))) else (none)) else (none)) else (darninglaw15_FitBest.l2 k x0 x1 x7 x11 x0 (x0.length : Int) 0)
def darninglaw15_FitBest.j4 : Nat → List (S35) → Int → List Int → Int → Bool → Int → List Int → Int → Int → Bool → Option (Bool)
  | 0, _, _, _, _, _, _, _, _, _, _ => none
  | k + 1, x0, x1, x2, x7, x11, x13, x93, x94, x95, x119 => if x119 = true then (some false) else (if x11 = true then (darninglaw15_FitBest.j5 k x0 x1 x2 x7 true x13 x93 x94 x95) else (darninglaw15_FitBest.j5 k x0 x1 x2 x7 (x13 == x7) x13 x93 x94 x95))
def darninglaw15_FitBest.j5 : Nat → List (S35) → Int → List Int → Int → Bool → Int → List Int → Int → Int → Option (Bool)
  | 0, _, _, _, _, _, _, _, _, _ => none
  | k + 1, x0, x1, x2, x7, x11, x13, x93, x94, x95 => if 0 ≤ x13 then (if x13 < (x0.length : Int) then ((darninglaw15_page.f ((rd_T35 x0 x13).f0) x2).bind fun t157 => (if 0 ≤ x7 then (if x7 < (x0.length : Int) then ((darninglaw15_page.f ((rd_T35 x0 x7).f0) x2).bind fun t159 => (if t157 < t159 then (some false) else (darninglaw15_FitBest.l1 k x0 x1 x2 x7 x11 x93 x94 (wrap64 (x95 + 1))))) else (none)) else (none))) else (none)) else (none)
def darninglaw15_FitBest.l2 : Nat → List (S35) → Int → Int → Bool → List (S35) → Int → Int → Option (Bool)
  | 0, _, _, _, _, _, _, _ => none
  | k + 1, x0, x1, x7, x11, x142, x143, x144 => if x144 < x143 then (if 0 ≤ x144 then (if x144 < (x142.length : Int) then (if ((rd_T35 x142 x144).f2 = true) then (darninglaw15_FitBest.l2 k x0 x1 x7 x11 x142 x143 (wrap64 (x144 + 1))) else (if ((rd_T35 x142 x144).f1) ≥ x1 then (if 0 ≤ x7 then (if x7 < (x0.length : Int) then (if ((rd_T35 x142 x144).f1) < ((rd_T35 x0 x7).f1) then (some false) else (darninglaw15_FitBest.l2 k x0 x1 x7 x11 x142 x143 (wrap64 (x144 + 1)))) else (none)) else (none)) else (darninglaw15_FitBest.l2 k x0 x1 x7 x11 x142 x143 (wrap64 (x144 + 1))))) else (none)) else (none)) else (if x11 = true then ((darninglaw15_awake.f k).bind fun t163 => (some t163)) else (some false))
end
def darninglaw15_FitBest.f (k : Nat) (l0 : List (S35)) (a1 : Int) (l2 : List Int) : Option (Bool) := if (l0.length : Int) > 300 then (darninglaw15_FitBest.j0 k l0 a1 l2 true) else (darninglaw15_FitBest.j0 k l0 a1 l2 (decide ((l2.length : Int) > 100)))
theorem darninglaw15_FitBest.mono_l : ∀ k, (∀ y0 y1 y2 y3, LeO (darninglaw15_FitBest.j0 k y0 y1 y2 y3) (darninglaw15_FitBest.j0 (k + 1) y0 y1 y2 y3)) ∧ (∀ y0 y1 y2 y3 y4 y5 y6 y7, LeO (darninglaw15_FitBest.l0 k y0 y1 y2 y3 y4 y5 y6 y7) (darninglaw15_FitBest.l0 (k + 1) y0 y1 y2 y3 y4 y5 y6 y7)) ∧ (∀ y0 y1 y2 y3 y4, LeO (darninglaw15_FitBest.j2 k y0 y1 y2 y3 y4) (darninglaw15_FitBest.j2 (k + 1) y0 y1 y2 y3 y4)) ∧ (∀ y0 y1 y2 y3 y4 y5 y6 y7, LeO (darninglaw15_FitBest.l1 k y0 y1 y2 y3 y4 y5 y6 y7) (darninglaw15_FitBest.l1 (k + 1) y0 y1 y2 y3 y4 y5 y6 y7)) ∧ (∀ y0 y1 y2 y3 y4 y5 y6 y7 y8 y9, LeO (darninglaw15_FitBest.j4 k y0 y1 y2 y3 y4 y5 y6 y7 y8 y9) (darninglaw15_FitBest.j4 (k + 1) y0 y1 y2 y3 y4 y5 y6 y7 y8 y9)) ∧ (∀ y0 y1 y2 y3 y4 y5 y6 y7 y8, LeO (darninglaw15_FitBest.j5 k y0 y1 y2 y3 y4 y5 y6 y7 y8) (darninglaw15_FitBest.j5 (k + 1) y0 y1 y2 y3 y4 y5 y6 y7 y8)) ∧ (∀ y0 y1 y2 y3 y4 y5 y6, LeO (darninglaw15_FitBest.l2 k y0 y1 y2 y3 y4 y5 y6) (darninglaw15_FitBest.l2 (k + 1) y0 y1 y2 y3 y4 y5 y6))
  | 0 => ⟨fun _ _ _ _ r h => by simp [darninglaw15_FitBest.j0] at h, fun _ _ _ _ _ _ _ _ r h => by simp [darninglaw15_FitBest.l0] at h, fun _ _ _ _ _ r h => by simp [darninglaw15_FitBest.j2] at h, fun _ _ _ _ _ _ _ _ r h => by simp [darninglaw15_FitBest.l1] at h, fun _ _ _ _ _ _ _ _ _ _ r h => by simp [darninglaw15_FitBest.j4] at h, fun _ _ _ _ _ _ _ _ _ r h => by simp [darninglaw15_FitBest.j5] at h, fun _ _ _ _ _ _ _ r h => by simp [darninglaw15_FitBest.l2] at h⟩
  | k + 1 => by
    obtain ⟨ih0, ih1, ih2, ih3, ih4, ih5, ih6⟩ := darninglaw15_FitBest.mono_l k
    refine ⟨?_, ?_, ?_, ?_, ?_, ?_, ?_⟩
    · intro y0 y1 y2 y3
      unfold darninglaw15_FitBest.j0
      repeat' first
      | (with_reducible exact ih0 _ _ _ _)
      | (with_reducible exact ih1 _ _ _ _ _ _ _ _)
      | (with_reducible exact ih2 _ _ _ _ _)
      | (with_reducible exact ih3 _ _ _ _ _ _ _ _)
      | (with_reducible exact ih4 _ _ _ _ _ _ _ _ _ _)
      | (with_reducible exact ih5 _ _ _ _ _ _ _ _ _)
      | (with_reducible exact ih6 _ _ _ _ _ _ _)
      | (with_reducible exact darninglaw15_awake.mono _)
      | (with_reducible exact fit_Choose.mono _ _ _ _)
      | (with_reducible exact fit_Fits.mono _ _ _)
      | (with_reducible exact LeO.refl _)
      | (with_reducible exact LeO.none _)
      | (with_reducible refine LeO.ite ?_ ?_)
      | (with_reducible refine LeO.bind ?_ (fun _ => ?_))
      | exact ih0 _ _ _ _
      | exact ih1 _ _ _ _ _ _ _ _
      | exact ih2 _ _ _ _ _
      | exact ih3 _ _ _ _ _ _ _ _
      | exact ih4 _ _ _ _ _ _ _ _ _ _
      | exact ih5 _ _ _ _ _ _ _ _ _
      | exact ih6 _ _ _ _ _ _ _
      | exact darninglaw15_awake.mono _
      | exact fit_Choose.mono _ _ _ _
      | exact fit_Fits.mono _ _ _
      | exact LeO.none _
      | refine LeO.ite ?_ ?_
      | refine LeO.bind ?_ (fun _ => ?_)
    · intro y0 y1 y2 y3 y4 y5 y6 y7
      unfold darninglaw15_FitBest.l0
      repeat' first
      | (with_reducible exact ih0 _ _ _ _)
      | (with_reducible exact ih1 _ _ _ _ _ _ _ _)
      | (with_reducible exact ih2 _ _ _ _ _)
      | (with_reducible exact ih3 _ _ _ _ _ _ _ _)
      | (with_reducible exact ih4 _ _ _ _ _ _ _ _ _ _)
      | (with_reducible exact ih5 _ _ _ _ _ _ _ _ _)
      | (with_reducible exact ih6 _ _ _ _ _ _ _)
      | (with_reducible exact darninglaw15_awake.mono _)
      | (with_reducible exact fit_Choose.mono _ _ _ _)
      | (with_reducible exact fit_Fits.mono _ _ _)
      | (with_reducible exact LeO.refl _)
      | (with_reducible exact LeO.none _)
      | (with_reducible refine LeO.ite ?_ ?_)
      | (with_reducible refine LeO.bind ?_ (fun _ => ?_))
      | exact ih0 _ _ _ _
      | exact ih1 _ _ _ _ _ _ _ _
      | exact ih2 _ _ _ _ _
      | exact ih3 _ _ _ _ _ _ _ _
      | exact ih4 _ _ _ _ _ _ _ _ _ _
      | exact ih5 _ _ _ _ _ _ _ _ _
      | exact ih6 _ _ _ _ _ _ _
      | exact darninglaw15_awake.mono _
      | exact fit_Choose.mono _ _ _ _
      | exact fit_Fits.mono _ _ _
      | exact LeO.none _
      | refine LeO.ite ?_ ?_
      | refine LeO.bind ?_ (fun _ => ?_)
    · intro y0 y1 y2 y3 y4
      unfold darninglaw15_FitBest.j2
      repeat' first
      | (with_reducible exact ih0 _ _ _ _)
      | (with_reducible exact ih1 _ _ _ _ _ _ _ _)
      | (with_reducible exact ih2 _ _ _ _ _)
      | (with_reducible exact ih3 _ _ _ _ _ _ _ _)
      | (with_reducible exact ih4 _ _ _ _ _ _ _ _ _ _)
      | (with_reducible exact ih5 _ _ _ _ _ _ _ _ _)
      | (with_reducible exact ih6 _ _ _ _ _ _ _)
      | (with_reducible exact darninglaw15_awake.mono _)
      | (with_reducible exact fit_Choose.mono _ _ _ _)
      | (with_reducible exact fit_Fits.mono _ _ _)
      | (with_reducible exact LeO.refl _)
      | (with_reducible exact LeO.none _)
      | (with_reducible refine LeO.ite ?_ ?_)
      | (with_reducible refine LeO.bind ?_ (fun _ => ?_))
      | exact ih0 _ _ _ _
      | exact ih1 _ _ _ _ _ _ _ _
      | exact ih2 _ _ _ _ _
      | exact ih3 _ _ _ _ _ _ _ _
      | exact ih4 _ _ _ _ _ _ _ _ _ _
      | exact ih5 _ _ _ _ _ _ _ _ _
      | exact ih6 _ _ _ _ _ _ _
      | exact darninglaw15_awake.mono _
      | exact fit_Choose.mono _ _ _ _
      | exact fit_Fits.mono _ _ _
      | exact LeO.none _
      | refine LeO.ite ?_ ?_
      | refine LeO.bind ?_ (fun _ => ?_)
    · intro y0 y1 y2 y3 y4 y5 y6 y7
      unfold darninglaw15_FitBest.l1
      repeat' first
      | (with_reducible exact ih0 _ _ _ _)
      | (with_reducible exact ih1 _ _ _ _ _ _ _ _)
      | (with_reducible exact ih2 _ _ _ _ _)
      | (with_reducible exact ih3 _ _ _ _ _ _ _ _)
      | (with_reducible exact ih4 _ _ _ _ _ _ _ _ _ _)
      | (with_reducible exact ih5 _ _ _ _ _ _ _ _ _)
      | (with_reducible exact ih6 _ _ _ _ _ _ _)
      | (with_reducible exact darninglaw15_awake.mono _)
      | (with_reducible exact fit_Choose.mono _ _ _ _)
      | (with_reducible exact fit_Fits.mono _ _ _)
      | (with_reducible exact LeO.refl _)
      | (with_reducible exact LeO.none _)
      | (with_reducible refine LeO.ite ?_ ?_)
      | (with_reducible refine LeO.bind ?_ (fun _ => ?_))
      | exact ih0 _ _ _ _
      | exact ih1 _ _ _ _ _ _ _ _
      | exact ih2 _ _ _ _ _
      | exact ih3 _ _ _ _ _ _ _ _
      | exact ih4 _ _ _ _ _ _ _ _ _ _
      | exact ih5 _ _ _ _ _ _ _ _ _
      | exact ih6 _ _ _ _ _ _ _
      | exact darninglaw15_awake.mono _
      | exact fit_Choose.mono _ _ _ _
      | exact fit_Fits.mono _ _ _
      | exact LeO.none _
      | refine LeO.ite ?_ ?_
      | refine LeO.bind ?_ (fun _ => ?_)
    · intro y0 y1 y2 y3 y4 y5 y6 y7 y8 y9
      unfold darninglaw15_FitBest.j4
      repeat' first
      | (with_reducible exact ih0 _ _ _ _)
      | (with_reducible exact ih1 _ _ _ _ _ _ _ _)
      | (with_reducible exact ih2 _ _ _ _ _)
      | (with_reducible exact ih3 _ _ _ _ _ _ _ _)
      | (with_reducible exact ih4 _ _ _ _ _ _ _ _ _ _)
      | (with_reducible exact ih5 _ _ _ _ _ _ _ _ _)
      | (with_reducible exact ih6 _ _ _ _ _ _ _)
      | (with_reducible exact darninglaw15_awake.mono _)
      | (with_reducible exact fit_Choose.mono _ _ _ _)
      | (with_reducible exact fit_Fits.mono _ _ _)
      | (with_reducible exact LeO.refl _)
      | (with_reducible exact LeO.none _)
      | (with_reducible refine LeO.ite ?_ ?_)
      | (with_reducible refine LeO.bind ?_ (fun _ => ?_))
      | exact ih0 _ _ _ _
      | exact ih1 _ _ _ _ _ _ _ _
      | exact ih2 _ _ _ _ _
      | exact ih3 _ _ _ _ _ _ _ _
      | exact ih4 _ _ _ _ _ _ _ _ _ _
      | exact ih5 _ _ _ _ _ _ _ _ _
      | exact ih6 _ _ _ _ _ _ _
      | exact darninglaw15_awake.mono _
      | exact fit_Choose.mono _ _ _ _
      | exact fit_Fits.mono _ _ _
      | exact LeO.none _
      | refine LeO.ite ?_ ?_
      | refine LeO.bind ?_ (fun _ => ?_)
    · intro y0 y1 y2 y3 y4 y5 y6 y7 y8
      unfold darninglaw15_FitBest.j5
      repeat' first
      | (with_reducible exact ih0 _ _ _ _)
      | (with_reducible exact ih1 _ _ _ _ _ _ _ _)
      | (with_reducible exact ih2 _ _ _ _ _)
      | (with_reducible exact ih3 _ _ _ _ _ _ _ _)
      | (with_reducible exact ih4 _ _ _ _ _ _ _ _ _ _)
      | (with_reducible exact ih5 _ _ _ _ _ _ _ _ _)
      | (with_reducible exact ih6 _ _ _ _ _ _ _)
      | (with_reducible exact darninglaw15_awake.mono _)
      | (with_reducible exact fit_Choose.mono _ _ _ _)
      | (with_reducible exact fit_Fits.mono _ _ _)
      | (with_reducible exact LeO.refl _)
      | (with_reducible exact LeO.none _)
      | (with_reducible refine LeO.ite ?_ ?_)
      | (with_reducible refine LeO.bind ?_ (fun _ => ?_))
      | exact ih0 _ _ _ _
      | exact ih1 _ _ _ _ _ _ _ _
      | exact ih2 _ _ _ _ _
      | exact ih3 _ _ _ _ _ _ _ _
      | exact ih4 _ _ _ _ _ _ _ _ _ _
      | exact ih5 _ _ _ _ _ _ _ _ _
      | exact ih6 _ _ _ _ _ _ _
      | exact darninglaw15_awake.mono _
      | exact fit_Choose.mono _ _ _ _
      | exact fit_Fits.mono _ _ _
      | exact LeO.none _
      | refine LeO.ite ?_ ?_
      | refine LeO.bind ?_ (fun _ => ?_)
    · intro y0 y1 y2 y3 y4 y5 y6
      unfold darninglaw15_FitBest.l2
      repeat' first
      | (with_reducible exact ih0 _ _ _ _)
      | (with_reducible exact ih1 _ _ _ _ _ _ _ _)
      | (with_reducible exact ih2 _ _ _ _ _)
      | (with_reducible exact ih3 _ _ _ _ _ _ _ _)
      | (with_reducible exact ih4 _ _ _ _ _ _ _ _ _ _)
      | (with_reducible exact ih5 _ _ _ _ _ _ _ _ _)
      | (with_reducible exact ih6 _ _ _ _ _ _ _)
      | (with_reducible exact darninglaw15_awake.mono _)
      | (with_reducible exact fit_Choose.mono _ _ _ _)
      | (with_reducible exact fit_Fits.mono _ _ _)
      | (with_reducible exact LeO.refl _)
      | (with_reducible exact LeO.none _)
      | (with_reducible refine LeO.ite ?_ ?_)
      | (with_reducible refine LeO.bind ?_ (fun _ => ?_))
      | exact ih0 _ _ _ _
      | exact ih1 _ _ _ _ _ _ _ _
      | exact ih2 _ _ _ _ _
      | exact ih3 _ _ _ _ _ _ _ _
      | exact ih4 _ _ _ _ _ _ _ _ _ _
      | exact ih5 _ _ _ _ _ _ _ _ _
      | exact ih6 _ _ _ _ _ _ _
      | exact darninglaw15_awake.mono _
      | exact fit_Choose.mono _ _ _ _
      | exact fit_Fits.mono _ _ _
      | exact LeO.none _
      | refine LeO.ite ?_ ?_
      | refine LeO.bind ?_ (fun _ => ?_)
theorem darninglaw15_FitBest.mono : ∀ a0 a1 a2 k, LeO (darninglaw15_FitBest.f k a0 a1 a2) (darninglaw15_FitBest.f (k + 1) a0 a1 a2) := by
  intro a0 a1 a2 k
  obtain ⟨ih0, ih1, ih2, ih3, ih4, ih5, ih6⟩ := darninglaw15_FitBest.mono_l k
  unfold darninglaw15_FitBest.f
  repeat' first
      | (with_reducible exact ih0 _ _ _ _)
      | (with_reducible exact ih1 _ _ _ _ _ _ _ _)
      | (with_reducible exact ih2 _ _ _ _ _)
      | (with_reducible exact ih3 _ _ _ _ _ _ _ _)
      | (with_reducible exact ih4 _ _ _ _ _ _ _ _ _ _)
      | (with_reducible exact ih5 _ _ _ _ _ _ _ _ _)
      | (with_reducible exact ih6 _ _ _ _ _ _ _)
      | (with_reducible exact darninglaw15_awake.mono _)
      | (with_reducible exact fit_Choose.mono _ _ _ _)
      | (with_reducible exact fit_Fits.mono _ _ _)
      | (with_reducible exact LeO.refl _)
      | (with_reducible exact LeO.none _)
      | (with_reducible refine LeO.ite ?_ ?_)
      | (with_reducible refine LeO.bind ?_ (fun _ => ?_))
      | exact ih0 _ _ _ _
      | exact ih1 _ _ _ _ _ _ _ _
      | exact ih2 _ _ _ _ _
      | exact ih3 _ _ _ _ _ _ _ _
      | exact ih4 _ _ _ _ _ _ _ _ _ _
      | exact ih5 _ _ _ _ _ _ _ _ _
      | exact ih6 _ _ _ _ _ _ _
      | exact darninglaw15_awake.mono _
      | exact fit_Choose.mono _ _ _ _
      | exact fit_Fits.mono _ _ _
      | exact LeO.none _
      | refine LeO.ite ?_ ?_
      | refine LeO.bind ?_ (fun _ => ?_)
set_option maxHeartbeats 8000000 in
set_option maxRecDepth 100000 in
theorem darninglaw15_FitBest.calls (k : Nat) (A0 : Option Addr) (c0 : Nat) (l0 : List (S35)) (a1 : Int) (A2 : Option Addr) (c2 : Nat) (l2 : List Int) (r : Bool) (w : World) (hr0 : Kd.C k35 w A0 l0.length l0) (hc0 : l0.length ≤ c0) (hr2 : Kd.C (Kd.int .i64) w A2 l2.length l2) (hc2 : l2.length ≤ c2) (h : darninglaw15_FitBest.f k l0 a1 l2 = some r) :
    Calls Try.prog 5 #[.slice A0 l0.length c0, .int .i64 a1, .slice A2 l2.length c2] w fun e w' => e = .returned (.bool r) ∧ Below w.heap.size w w' := by
  have hu35 := Try.underlying35
  have HR0 := Aside0.mk hr0
  have HC0 := Aside0.mk hc0
  clear hr0 hc0
  have HR2 := Aside0.mk hr2
  have HC2 := Aside0.mk hc2
  clear hr2 hc2
  have HB := Aside0.mk (Below.refl w.heap.size w)
  have H : (if (l0.length : Int) > 300 then (darninglaw15_FitBest.j0 k l0 a1 l2 true) else (darninglaw15_FitBest.j0 k l0 a1 l2 (decide ((l2.length : Int) > 100)))) = some r := h
  clear h
  have HC4 := Aside0.mk H
  clear H
  go_enter Try.func5, Try.ntmps5
  go_upto_region 1 with (fail)
  repeat (go_quiet (fail); go_upto_region 1 with (fail))
  go_cut [23] (fun v23 wc => ∃ (kq : Nat) (x23_3 : Bool), v23 = .bool x23_3 ∧ Aside0 (darninglaw15_FitBest.j0 kq l0 a1 l2 x23_3 = some r) ∧ Aside0 (kq ≤ k) ∧ Aside0 (Below w.heap.size w wc))
  case first =>
    have H := HC4.out
    clear HC4
    by_cases c5 : (l0.length : Int) > 300
    · rw [if_pos c5] at H
      have c5b0 : decide (300 < (l0.length : Int)) = true := decide_eq_true c5
      have c5b1 : decide (300 < l0.length) = true := decide_eq_true (by omega)
      clear c5
      (first | rw [c5b0] | (simp only [i64_w, i32_w]; rw [c5b0]) | skip)
      have H' := Aside0.mk H
      clear H
      go_wp2
      repeat (go_quiet (fail); try go_wp2)
      go_meet
      case rel => exact ⟨_, (true), (by first | rfl | (simp; done) | (simp [*]; done)), H', ⟨by first | omega | exact Nat.le_refl _⟩, ⟨by repeat (first | (with_reducible first | exact HB.out | apply below_alloc | apply pw_below_drewN | apply below_drew1) | exact HB.out)⟩⟩
    · rw [if_neg c5] at H
      have c5b0 : decide (300 < (l0.length : Int)) = false := decide_eq_false c5
      have c5b1 : decide (300 < l0.length) = false := decide_eq_false (by omega)
      clear c5
      (first | rw [c5b0] | (simp only [i64_w, i32_w]; rw [c5b0]) | skip)
      have H' := Aside0.mk H
      clear H
      go_wp2
      repeat (go_quiet (fail); try go_wp2)
      go_meet
      case rel => exact ⟨_, (decide ((l2.length : Int) > 100)), (by first | rfl | (simp; done) | (simp [*]; done)), H', ⟨by first | omega | exact Nat.le_refl _⟩, ⟨by repeat (first | (with_reducible first | exact HB.out | apply below_alloc | apply pw_below_drewN | apply below_drew1) | exact HB.out)⟩⟩
  case rest =>
    clear HC4
    try clear c2
    try clear p2
    try clear c5
    try clear c5b0
    try clear c5b1
    obtain ⟨kq, x23_3, rfl, HA, HJ3, HB⟩ := hcut
    cases kq with
    | zero => exact absurd HA.out (by simp [darninglaw15_FitBest.j0])
    | succ kj3 =>
      have H := HA.out
      clear HA
      simp only [darninglaw15_FitBest.j0] at H
      by_cases c6 : x23_3 = true
      · subst c6
        have H1 : ((darninglaw15_awake.f kj3).bind fun t140 => (some t140)) = some r := by rw [if_pos rfl] at H; exact H
        clear H
        have H := H1
        clear H1
        replace H := Option.bind_eq_some_iff.mp H
        obtain ⟨t140, A70, H⟩ := H
        replace H : (some t140) = some r := H
        have A7 := Aside0.mk A70
        clear A70
        obtain rfl := Option.some.inj H
        go_wp2_with (first | (go_at_call 21; (with_reducible refine (darninglaw15_awake.calls kj3  t140 _ A7.out).mono ?_); rintro e w8 ⟨rfl, hb⟩; have n0_ := Aside0.mk (below_step (by repeat (first | (with_reducible first | exact HB.out | apply below_alloc | apply pw_below_drewN | apply below_drew1) | exact HB.out)) hb); clear HB; have HB := n0_; clear n0_; (try clear hb); (try clear hb2); (try clear hk); (try clear hi)))
        repeat (go_quiet (first | (go_at_call 21; (with_reducible refine (darninglaw15_awake.calls kj3  t140 _ A7.out).mono ?_); rintro e w8 ⟨rfl, hb⟩; have n0_ := Aside0.mk (below_step (by repeat (first | (with_reducible first | exact HB.out | apply below_alloc | apply pw_below_drewN | apply below_drew1) | exact HB.out)) hb); clear HB; have HB := n0_; clear n0_; (try clear hb); (try clear hb2); (try clear hk); (try clear hi))); try go_wp2_with (first | (go_at_call 21; (with_reducible refine (darninglaw15_awake.calls kj3  t140 _ A7.out).mono ?_); rintro e w8 ⟨rfl, hb⟩; have n0_ := Aside0.mk (below_step (by repeat (first | (with_reducible first | exact HB.out | apply below_alloc | apply pw_below_drewN | apply below_drew1) | exact HB.out)) hb); clear HB; have HB := n0_; clear n0_; (try clear hb); (try clear hb2); (try clear hk); (try clear hi))))
        go_ret
        exact ⟨by first | rfl | (simp [errW_none, errW_some] <;> rfl) | (simp [*, errW_none, errW_some] <;> rfl), by repeat (first | (with_reducible first | exact HB.out | apply below_alloc | apply pw_below_drewN | apply below_drew1) | exact HB.out)⟩
      · replace c6 := Bool.eq_false_iff.mpr c6
        subst c6
        have H1 : ((fit_Choose.f kj3 l0 (wrap64 (2 + (wrap64 (Int.tmod (IntKind.u64.wrap (a1)) 60)))) l2).bind fun t141 => (darninglaw15_FitBest.l0 kj3 l0 (wrap64 (2 + (wrap64 (Int.tmod (IntKind.u64.wrap (a1)) 60)))) l2 t141 false l0 (l0.length : Int) 0)) = some r := by rw [if_neg (show ¬ (false = true) by decide)] at H; exact H
        clear H
        have H := H1
        clear H1
        replace H := Option.bind_eq_some_iff.mp H
        obtain ⟨t141, A90, H⟩ := H
        replace H : (darninglaw15_FitBest.l0 kj3 l0 (wrap64 (2 + (wrap64 (Int.tmod (IntKind.u64.wrap (a1)) 60)))) l2 t141 false l0 (l0.length : Int) 0) = some r := H
        have A9 := Aside0.mk A90
        clear A90
        have H' := Aside0.mk H
        clear H
        go_wp2_with (first | (go_at_call 22; (with_reducible refine (fit_Choose.calls kj3 _ _ l0 (wrap64 (2 + (wrap64 (Int.tmod (IntKind.u64.wrap (a1)) 60)))) _ _ l2 t141 _ ?side1 ?side2 ?side3 ?side4 A9.out).mono ?_); (case side1 => repeat (first | exact (Kd.C_below HR0.out HB.out) | (with_reducible refine Kd.C_alloc ?_ _) | (with_reducible refine Kd.C_drewN ?_ _) | (with_reducible refine Kd.C_drew ?_))); (case side2 => exact HC0.out); (case side3 => repeat (first | exact (Kd.C_below HR2.out HB.out) | (with_reducible refine Kd.C_alloc ?_ _) | (with_reducible refine Kd.C_drewN ?_ _) | (with_reducible refine Kd.C_drew ?_))); (case side4 => exact HC2.out); rintro e w10 ⟨rfl, hb⟩; have n0_ := Aside0.mk (below_step (by repeat (first | (with_reducible first | exact HB.out | apply below_alloc | apply pw_below_drewN | apply below_drew1) | exact HB.out)) hb); clear HB; have HB := n0_; clear n0_; (try clear hb); (try clear hb2); (try clear hk); (try clear hi)))
        repeat (go_quiet (first | (go_at_call 22; (with_reducible refine (fit_Choose.calls kj3 _ _ l0 (wrap64 (2 + (wrap64 (Int.tmod (IntKind.u64.wrap (a1)) 60)))) _ _ l2 t141 _ ?side1 ?side2 ?side3 ?side4 A9.out).mono ?_); (case side1 => repeat (first | exact (Kd.C_below HR0.out HB.out) | (with_reducible refine Kd.C_alloc ?_ _) | (with_reducible refine Kd.C_drewN ?_ _) | (with_reducible refine Kd.C_drew ?_))); (case side2 => exact HC0.out); (case side3 => repeat (first | exact (Kd.C_below HR2.out HB.out) | (with_reducible refine Kd.C_alloc ?_ _) | (with_reducible refine Kd.C_drewN ?_ _) | (with_reducible refine Kd.C_drew ?_))); (case side4 => exact HC2.out); rintro e w10 ⟨rfl, hb⟩; have n0_ := Aside0.mk (below_step (by repeat (first | (with_reducible first | exact HB.out | apply below_alloc | apply pw_below_drewN | apply below_drew1) | exact HB.out)) hb); clear HB; have HB := n0_; clear n0_; (try clear hb); (try clear hb2); (try clear hk); (try clear hi))); try go_wp2_with (first | (go_at_call 22; (with_reducible refine (fit_Choose.calls kj3 _ _ l0 (wrap64 (2 + (wrap64 (Int.tmod (IntKind.u64.wrap (a1)) 60)))) _ _ l2 t141 _ ?side1 ?side2 ?side3 ?side4 A9.out).mono ?_); (case side1 => repeat (first | exact (Kd.C_below HR0.out HB.out) | (with_reducible refine Kd.C_alloc ?_ _) | (with_reducible refine Kd.C_drewN ?_ _) | (with_reducible refine Kd.C_drew ?_))); (case side2 => exact HC0.out); (case side3 => repeat (first | exact (Kd.C_below HR2.out HB.out) | (with_reducible refine Kd.C_alloc ?_ _) | (with_reducible refine Kd.C_drewN ?_ _) | (with_reducible refine Kd.C_drew ?_))); (case side4 => exact HC2.out); rintro e w10 ⟨rfl, hb⟩; have n0_ := Aside0.mk (below_step (by repeat (first | (with_reducible first | exact HB.out | apply below_alloc | apply pw_below_drewN | apply below_drew1) | exact HB.out)) hb); clear HB; have HB := n0_; clear n0_; (try clear hb); (try clear hb2); (try clear hk); (try clear hi))))
        go_loopg [8, 36] kj3 (fun kq v8 v36 w' => ∃ (x8_2 : Bool) (x36_2 : Int), v8 = .bool x8_2 ∧ v36 = .int .i64 x36_2 ∧ Aside0 (darninglaw15_FitBest.l0 kq l0 (wrap64 (2 + (wrap64 (Int.tmod (IntKind.u64.wrap (a1)) 60)))) l2 t141 x8_2 l0 (l0.length : Int) x36_2 = some r) ∧ Aside0 (kq ≤ kj3) ∧ Aside0 (Below w.heap.size w w'))
        case atStart => exact ⟨(false), (0), (by first | rfl | (simp; done) | (simp [*]; done)), (by first | rfl | (simp; done) | (simp [*]; done)), H', ⟨Nat.le_refl _⟩, ⟨by repeat (first | (with_reducible first | exact HB.out | apply below_alloc | apply pw_below_drewN | apply below_drew1) | exact HB.out)⟩⟩
        case round =>
          clear H'
          try clear c2
          try clear p2
          try clear c5
          try clear c5b0
          try clear c5b1
          try clear c6
          try clear p6
          try clear p2
          obtain ⟨x8_2, x36_2, rfl, rfl, HA, HK2, HB⟩ := hrel
          cases gk with
          | zero => exact absurd HA.out (by simp [darninglaw15_FitBest.l0])
          | succ k2 =>
            have H := HA.out
            clear HA
            simp only [darninglaw15_FitBest.l0] at H
            by_cases c11 : x36_2 < (l0.length : Int)
            · rw [if_pos c11] at H
              have c11b0 : decide (x36_2 < (l0.length : Int)) = true := decide_eq_true c11
              clear c11
              by_cases c12 : 0 ≤ x36_2
              · rw [if_pos c12] at H
                have c12b0 : decide (0 ≤ x36_2) = true := decide_eq_true c12
                clear c12
                by_cases c13 : x36_2 < (l0.length : Int)
                · rw [if_pos c13] at H
                  have c13b0 : decide (x36_2 < (l0.length : Int)) = true := decide_eq_true c13
                  clear c13
                  by_cases c14 : x8_2 = true
                  · subst c14
                    have H1 : (darninglaw15_FitBest.l0 k2 l0 (wrap64 (2 + (wrap64 (Int.tmod (IntKind.u64.wrap (a1)) 60)))) l2 t141 true l0 (l0.length : Int) (wrap64 (x36_2 + 1))) = some r := by rw [if_pos rfl] at H; exact H
                    clear H
                    have H := H1
                    clear H1
                    have H' := Aside0.mk H
                    clear H
                    have p142 : 0 ≤ (x36_2 : Int) := of_decide_eq_true (by first | (with_reducible assumption) | assumption)
                    have q142 : x36_2 < (l0.length : Int) := of_decide_eq_true (by first | (with_reducible assumption) | assumption)
                    obtain ⟨ad142, e142, hx142_0, hx142_1, hx142_2⟩ := at_T35 HR0.out x36_2 p142 q142
                    cases e142
                    replace hx142_0 := (HB.out.cell (World.block_lt_of_cell? w _ hx142_0)).trans hx142_0
                    replace hx142_1 := (HB.out.cell (World.block_lt_of_cell? w _ hx142_1)).trans hx142_1
                    replace hx142_2 := (HB.out.cell (World.block_lt_of_cell? w _ hx142_2)).trans hx142_2
                    replace p142 := eq_true p142
                    replace q142 := eq_true q142
                    go_wp2_with (first | ((with_reducible refine gate_dst (N := 10) rfl ?_); (try (refine gate_guard (by rfl) ?_; dsimp only)); refine box_event ?hg (N := 10) ?hd (cs := #[.int .i64 0, .int .i64 0, .bool false]) (t := 35) ?hr ?_; (case hd => rfl); (case hg => rfl); (case hr => first | (go_simp; done) | (go_simp; rfl)); intro gb143 hg w15 hbox hb; have n0_ := Aside0.mk (below_step (by repeat (first | (with_reducible first | exact HB.out | apply below_alloc | apply pw_below_drewN | apply below_drew1) | exact HB.out)) hb); have n1_ := Aside0.mk (hbox); have n2_ := Aside0.mk ((by rw [hg]; exact (below_size (by repeat (first | (with_reducible first | exact HB.out | apply below_alloc | apply pw_below_drewN | apply below_drew1) | exact HB.out))) : w.heap.size ≤ gb143)); have n3_ := Aside0.mk ((by rw [hg]; exact (below_size (by repeat (first | (with_reducible first | exact HB.out | apply below_alloc | apply pw_below_drewN | apply below_drew1) | exact HB.out))) : w.heap.size ≤ gb143)); clear HB; have HB := n0_; have BK143 := n1_; have GW143 := n2_; have GE143 := n3_; clear n0_ n1_ n2_ n3_; clear hb hbox hg; have hcz16_0 : w15.cell? ⟨gb143, 0, none⟩ = some (.int .i64 0) := (blk_cell BK143.out 0).trans rfl; have hcz16_1 : w15.cell? ⟨gb143, 1, none⟩ = some (.int .i64 0) := (blk_cell BK143.out 1).trans rfl; have hcz16_2 : w15.cell? ⟨gb143, 2, none⟩ = some (.bool false) := (blk_cell BK143.out 2).trans rfl; have hfz16_0 := blk_frozen BK143.out 0; have hfz16_1 := blk_frozen BK143.out 1; have hfz16_2 := blk_frozen BK143.out 2))
                    repeat (go_quiet (first | ((with_reducible refine gate_dst (N := 10) rfl ?_); (try (refine gate_guard (by rfl) ?_; dsimp only)); refine box_event ?hg (N := 10) ?hd (cs := #[.int .i64 0, .int .i64 0, .bool false]) (t := 35) ?hr ?_; (case hd => rfl); (case hg => rfl); (case hr => first | (go_simp; done) | (go_simp; rfl)); intro gb143 hg w15 hbox hb; have n0_ := Aside0.mk (below_step (by repeat (first | (with_reducible first | exact HB.out | apply below_alloc | apply pw_below_drewN | apply below_drew1) | exact HB.out)) hb); have n1_ := Aside0.mk (hbox); have n2_ := Aside0.mk ((by rw [hg]; exact (below_size (by repeat (first | (with_reducible first | exact HB.out | apply below_alloc | apply pw_below_drewN | apply below_drew1) | exact HB.out))) : w.heap.size ≤ gb143)); have n3_ := Aside0.mk ((by rw [hg]; exact (below_size (by repeat (first | (with_reducible first | exact HB.out | apply below_alloc | apply pw_below_drewN | apply below_drew1) | exact HB.out))) : w.heap.size ≤ gb143)); clear HB; have HB := n0_; have BK143 := n1_; have GW143 := n2_; have GE143 := n3_; clear n0_ n1_ n2_ n3_; clear hb hbox hg; have hcz16_0 : w15.cell? ⟨gb143, 0, none⟩ = some (.int .i64 0) := (blk_cell BK143.out 0).trans rfl; have hcz16_1 : w15.cell? ⟨gb143, 1, none⟩ = some (.int .i64 0) := (blk_cell BK143.out 1).trans rfl; have hcz16_2 : w15.cell? ⟨gb143, 2, none⟩ = some (.bool false) := (blk_cell BK143.out 2).trans rfl; have hfz16_0 := blk_frozen BK143.out 0; have hfz16_1 := blk_frozen BK143.out 1; have hfz16_2 := blk_frozen BK143.out 2)); try go_wp2_with (first | ((with_reducible refine gate_dst (N := 10) rfl ?_); (try (refine gate_guard (by rfl) ?_; dsimp only)); refine box_event ?hg (N := 10) ?hd (cs := #[.int .i64 0, .int .i64 0, .bool false]) (t := 35) ?hr ?_; (case hd => rfl); (case hg => rfl); (case hr => first | (go_simp; done) | (go_simp; rfl)); intro gb143 hg w15 hbox hb; have n0_ := Aside0.mk (below_step (by repeat (first | (with_reducible first | exact HB.out | apply below_alloc | apply pw_below_drewN | apply below_drew1) | exact HB.out)) hb); have n1_ := Aside0.mk (hbox); have n2_ := Aside0.mk ((by rw [hg]; exact (below_size (by repeat (first | (with_reducible first | exact HB.out | apply below_alloc | apply pw_below_drewN | apply below_drew1) | exact HB.out))) : w.heap.size ≤ gb143)); have n3_ := Aside0.mk ((by rw [hg]; exact (below_size (by repeat (first | (with_reducible first | exact HB.out | apply below_alloc | apply pw_below_drewN | apply below_drew1) | exact HB.out))) : w.heap.size ≤ gb143)); clear HB; have HB := n0_; have BK143 := n1_; have GW143 := n2_; have GE143 := n3_; clear n0_ n1_ n2_ n3_; clear hb hbox hg; have hcz16_0 : w15.cell? ⟨gb143, 0, none⟩ = some (.int .i64 0) := (blk_cell BK143.out 0).trans rfl; have hcz16_1 : w15.cell? ⟨gb143, 1, none⟩ = some (.int .i64 0) := (blk_cell BK143.out 1).trans rfl; have hcz16_2 : w15.cell? ⟨gb143, 2, none⟩ = some (.bool false) := (blk_cell BK143.out 2).trans rfl; have hfz16_0 := blk_frozen BK143.out 0; have hfz16_1 := blk_frozen BK143.out 1; have hfz16_2 := blk_frozen BK143.out 2)))
                    go_roundg k2
                    case measure => have := HJ3.out; have := HK2.out; omega
                    case rel => exact ⟨(true), (wrap64 (x36_2 + 1)), (by first | rfl | (simp; done) | (simp [*]; done)), (by first | rfl | (simp; done) | (simp [*]; done)), H', ⟨by have := HJ3.out; have := HK2.out; omega⟩, ⟨by repeat (first | (with_reducible first | exact HB.out | apply below_alloc | apply pw_below_drewN | apply below_drew1 | refine below_set ?_ GE143.out) | exact HB.out)⟩⟩
                  · replace c14 := Bool.eq_false_iff.mpr c14
                    subst c14
                    have H1 : (if ((rd_T35 l0 x36_2).f2 = true) then (darninglaw15_FitBest.l0 k2 l0 (wrap64 (2 + (wrap64 (Int.tmod (IntKind.u64.wrap (a1)) 60)))) l2 t141 false l0 (l0.length : Int) (wrap64 (x36_2 + 1))) else (darninglaw15_FitBest.l0 k2 l0 (wrap64 (2 + (wrap64 (Int.tmod (IntKind.u64.wrap (a1)) 60)))) l2 t141 (decide (((rd_T35 l0 x36_2).f1) ≥ (wrap64 (2 + (wrap64 (Int.tmod (IntKind.u64.wrap (a1)) 60)))))) l0 (l0.length : Int) (wrap64 (x36_2 + 1)))) = some r := by rw [if_neg (show ¬ (false = true) by decide)] at H; exact H
                    clear H
                    have H := H1
                    clear H1
                    obtain ⟨bq17, hbq17⟩ : ∃ b_ : Bool, b_ = ((rd_T35 l0 x36_2).f2) := ⟨_, rfl⟩
                    replace H : (if (bq17 = true) then (darninglaw15_FitBest.l0 k2 l0 (wrap64 (2 + (wrap64 (Int.tmod (IntKind.u64.wrap (a1)) 60)))) l2 t141 false l0 (l0.length : Int) (wrap64 (x36_2 + 1))) else (darninglaw15_FitBest.l0 k2 l0 (wrap64 (2 + (wrap64 (Int.tmod (IntKind.u64.wrap (a1)) 60)))) l2 t141 (decide (((rd_T35 l0 x36_2).f1) ≥ (wrap64 (2 + (wrap64 (Int.tmod (IntKind.u64.wrap (a1)) 60)))))) l0 (l0.length : Int) (wrap64 (x36_2 + 1)))) = some r := by rw [← hbq17] at H; exact H
                    have Nbq17 := Aside0.mk hbq17
                    clear hbq17
                    (try rw [← Nbq17.out])
                    by_cases c18 : (bq17 = true)
                    · subst c18
                      have H1 : (darninglaw15_FitBest.l0 k2 l0 (wrap64 (2 + (wrap64 (Int.tmod (IntKind.u64.wrap (a1)) 60)))) l2 t141 false l0 (l0.length : Int) (wrap64 (x36_2 + 1))) = some r := by rw [if_pos rfl] at H; exact H
                      clear H
                      have H := H1
                      clear H1
                      have H' := Aside0.mk H
                      clear H
                      have p142 : 0 ≤ (x36_2 : Int) := of_decide_eq_true (by first | (with_reducible assumption) | assumption)
                      have q142 : x36_2 < (l0.length : Int) := of_decide_eq_true (by first | (with_reducible assumption) | assumption)
                      obtain ⟨ad142, e142, hx142_0, hx142_1, hx142_2⟩ := at_T35 HR0.out x36_2 p142 q142
                      (try rw [← Nbq17.out] at hx142_2)
                      cases e142
                      replace hx142_0 := (HB.out.cell (World.block_lt_of_cell? w _ hx142_0)).trans hx142_0
                      replace hx142_1 := (HB.out.cell (World.block_lt_of_cell? w _ hx142_1)).trans hx142_1
                      replace hx142_2 := (HB.out.cell (World.block_lt_of_cell? w _ hx142_2)).trans hx142_2
                      replace p142 := eq_true p142
                      replace q142 := eq_true q142
                      go_wp2_with (first | ((with_reducible refine gate_dst (N := 10) rfl ?_); (try (refine gate_guard (by rfl) ?_; dsimp only)); refine box_event ?hg (N := 10) ?hd (cs := #[.int .i64 0, .int .i64 0, .bool false]) (t := 35) ?hr ?_; (case hd => rfl); (case hg => rfl); (case hr => first | (go_simp; done) | (go_simp; rfl)); intro gb143 hg w19 hbox hb; have n0_ := Aside0.mk (below_step (by repeat (first | (with_reducible first | exact HB.out | apply below_alloc | apply pw_below_drewN | apply below_drew1) | exact HB.out)) hb); have n1_ := Aside0.mk (hbox); have n2_ := Aside0.mk ((by rw [hg]; exact (below_size (by repeat (first | (with_reducible first | exact HB.out | apply below_alloc | apply pw_below_drewN | apply below_drew1) | exact HB.out))) : w.heap.size ≤ gb143)); have n3_ := Aside0.mk ((by rw [hg]; exact (below_size (by repeat (first | (with_reducible first | exact HB.out | apply below_alloc | apply pw_below_drewN | apply below_drew1) | exact HB.out))) : w.heap.size ≤ gb143)); clear HB; have HB := n0_; have BK143 := n1_; have GW143 := n2_; have GE143 := n3_; clear n0_ n1_ n2_ n3_; clear hb hbox hg; have hcz20_0 : w19.cell? ⟨gb143, 0, none⟩ = some (.int .i64 0) := (blk_cell BK143.out 0).trans rfl; have hcz20_1 : w19.cell? ⟨gb143, 1, none⟩ = some (.int .i64 0) := (blk_cell BK143.out 1).trans rfl; have hcz20_2 : w19.cell? ⟨gb143, 2, none⟩ = some (.bool false) := (blk_cell BK143.out 2).trans rfl; have hfz20_0 := blk_frozen BK143.out 0; have hfz20_1 := blk_frozen BK143.out 1; have hfz20_2 := blk_frozen BK143.out 2))
                      repeat (go_quiet (first | ((with_reducible refine gate_dst (N := 10) rfl ?_); (try (refine gate_guard (by rfl) ?_; dsimp only)); refine box_event ?hg (N := 10) ?hd (cs := #[.int .i64 0, .int .i64 0, .bool false]) (t := 35) ?hr ?_; (case hd => rfl); (case hg => rfl); (case hr => first | (go_simp; done) | (go_simp; rfl)); intro gb143 hg w19 hbox hb; have n0_ := Aside0.mk (below_step (by repeat (first | (with_reducible first | exact HB.out | apply below_alloc | apply pw_below_drewN | apply below_drew1) | exact HB.out)) hb); have n1_ := Aside0.mk (hbox); have n2_ := Aside0.mk ((by rw [hg]; exact (below_size (by repeat (first | (with_reducible first | exact HB.out | apply below_alloc | apply pw_below_drewN | apply below_drew1) | exact HB.out))) : w.heap.size ≤ gb143)); have n3_ := Aside0.mk ((by rw [hg]; exact (below_size (by repeat (first | (with_reducible first | exact HB.out | apply below_alloc | apply pw_below_drewN | apply below_drew1) | exact HB.out))) : w.heap.size ≤ gb143)); clear HB; have HB := n0_; have BK143 := n1_; have GW143 := n2_; have GE143 := n3_; clear n0_ n1_ n2_ n3_; clear hb hbox hg; have hcz20_0 : w19.cell? ⟨gb143, 0, none⟩ = some (.int .i64 0) := (blk_cell BK143.out 0).trans rfl; have hcz20_1 : w19.cell? ⟨gb143, 1, none⟩ = some (.int .i64 0) := (blk_cell BK143.out 1).trans rfl; have hcz20_2 : w19.cell? ⟨gb143, 2, none⟩ = some (.bool false) := (blk_cell BK143.out 2).trans rfl; have hfz20_0 := blk_frozen BK143.out 0; have hfz20_1 := blk_frozen BK143.out 1; have hfz20_2 := blk_frozen BK143.out 2)); try go_wp2_with (first | ((with_reducible refine gate_dst (N := 10) rfl ?_); (try (refine gate_guard (by rfl) ?_; dsimp only)); refine box_event ?hg (N := 10) ?hd (cs := #[.int .i64 0, .int .i64 0, .bool false]) (t := 35) ?hr ?_; (case hd => rfl); (case hg => rfl); (case hr => first | (go_simp; done) | (go_simp; rfl)); intro gb143 hg w19 hbox hb; have n0_ := Aside0.mk (below_step (by repeat (first | (with_reducible first | exact HB.out | apply below_alloc | apply pw_below_drewN | apply below_drew1) | exact HB.out)) hb); have n1_ := Aside0.mk (hbox); have n2_ := Aside0.mk ((by rw [hg]; exact (below_size (by repeat (first | (with_reducible first | exact HB.out | apply below_alloc | apply pw_below_drewN | apply below_drew1) | exact HB.out))) : w.heap.size ≤ gb143)); have n3_ := Aside0.mk ((by rw [hg]; exact (below_size (by repeat (first | (with_reducible first | exact HB.out | apply below_alloc | apply pw_below_drewN | apply below_drew1) | exact HB.out))) : w.heap.size ≤ gb143)); clear HB; have HB := n0_; have BK143 := n1_; have GW143 := n2_; have GE143 := n3_; clear n0_ n1_ n2_ n3_; clear hb hbox hg; have hcz20_0 : w19.cell? ⟨gb143, 0, none⟩ = some (.int .i64 0) := (blk_cell BK143.out 0).trans rfl; have hcz20_1 : w19.cell? ⟨gb143, 1, none⟩ = some (.int .i64 0) := (blk_cell BK143.out 1).trans rfl; have hcz20_2 : w19.cell? ⟨gb143, 2, none⟩ = some (.bool false) := (blk_cell BK143.out 2).trans rfl; have hfz20_0 := blk_frozen BK143.out 0; have hfz20_1 := blk_frozen BK143.out 1; have hfz20_2 := blk_frozen BK143.out 2)))
                      go_roundg k2
                      case measure => have := HJ3.out; have := HK2.out; omega
                      case rel => exact ⟨(false), (wrap64 (x36_2 + 1)), (by first | rfl | (simp; done) | (simp [*]; done)), (by first | rfl | (simp; done) | (simp [*]; done)), H', ⟨by have := HJ3.out; have := HK2.out; omega⟩, ⟨by repeat (first | (with_reducible first | exact HB.out | apply below_alloc | apply pw_below_drewN | apply below_drew1 | refine below_set ?_ GE143.out) | exact HB.out)⟩⟩
                    · replace c18 := Bool.eq_false_iff.mpr c18
                      subst c18
                      have H1 : (darninglaw15_FitBest.l0 k2 l0 (wrap64 (2 + (wrap64 (Int.tmod (IntKind.u64.wrap (a1)) 60)))) l2 t141 (decide (((rd_T35 l0 x36_2).f1) ≥ (wrap64 (2 + (wrap64 (Int.tmod (IntKind.u64.wrap (a1)) 60)))))) l0 (l0.length : Int) (wrap64 (x36_2 + 1))) = some r := by rw [if_neg (show ¬ (false = true) by decide)] at H; exact H
                      clear H
                      have H := H1
                      clear H1
                      have H' := Aside0.mk H
                      clear H
                      have p142 : 0 ≤ (x36_2 : Int) := of_decide_eq_true (by first | (with_reducible assumption) | assumption)
                      have q142 : x36_2 < (l0.length : Int) := of_decide_eq_true (by first | (with_reducible assumption) | assumption)
                      obtain ⟨ad142, e142, hx142_0, hx142_1, hx142_2⟩ := at_T35 HR0.out x36_2 p142 q142
                      (try rw [← Nbq17.out] at hx142_2)
                      cases e142
                      replace hx142_0 := (HB.out.cell (World.block_lt_of_cell? w _ hx142_0)).trans hx142_0
                      replace hx142_1 := (HB.out.cell (World.block_lt_of_cell? w _ hx142_1)).trans hx142_1
                      replace hx142_2 := (HB.out.cell (World.block_lt_of_cell? w _ hx142_2)).trans hx142_2
                      replace p142 := eq_true p142
                      replace q142 := eq_true q142
                      go_wp2_with (first | ((with_reducible refine gate_dst (N := 10) rfl ?_); (try (refine gate_guard (by rfl) ?_; dsimp only)); refine box_event ?hg (N := 10) ?hd (cs := #[.int .i64 0, .int .i64 0, .bool false]) (t := 35) ?hr ?_; (case hd => rfl); (case hg => rfl); (case hr => first | (go_simp; done) | (go_simp; rfl)); intro gb143 hg w21 hbox hb; have n0_ := Aside0.mk (below_step (by repeat (first | (with_reducible first | exact HB.out | apply below_alloc | apply pw_below_drewN | apply below_drew1) | exact HB.out)) hb); have n1_ := Aside0.mk (hbox); have n2_ := Aside0.mk ((by rw [hg]; exact (below_size (by repeat (first | (with_reducible first | exact HB.out | apply below_alloc | apply pw_below_drewN | apply below_drew1) | exact HB.out))) : w.heap.size ≤ gb143)); have n3_ := Aside0.mk ((by rw [hg]; exact (below_size (by repeat (first | (with_reducible first | exact HB.out | apply below_alloc | apply pw_below_drewN | apply below_drew1) | exact HB.out))) : w.heap.size ≤ gb143)); clear HB; have HB := n0_; have BK143 := n1_; have GW143 := n2_; have GE143 := n3_; clear n0_ n1_ n2_ n3_; clear hb hbox hg; have hcz22_0 : w21.cell? ⟨gb143, 0, none⟩ = some (.int .i64 0) := (blk_cell BK143.out 0).trans rfl; have hcz22_1 : w21.cell? ⟨gb143, 1, none⟩ = some (.int .i64 0) := (blk_cell BK143.out 1).trans rfl; have hcz22_2 : w21.cell? ⟨gb143, 2, none⟩ = some (.bool false) := (blk_cell BK143.out 2).trans rfl; have hfz22_0 := blk_frozen BK143.out 0; have hfz22_1 := blk_frozen BK143.out 1; have hfz22_2 := blk_frozen BK143.out 2))
                      repeat (go_quiet (first | ((with_reducible refine gate_dst (N := 10) rfl ?_); (try (refine gate_guard (by rfl) ?_; dsimp only)); refine box_event ?hg (N := 10) ?hd (cs := #[.int .i64 0, .int .i64 0, .bool false]) (t := 35) ?hr ?_; (case hd => rfl); (case hg => rfl); (case hr => first | (go_simp; done) | (go_simp; rfl)); intro gb143 hg w21 hbox hb; have n0_ := Aside0.mk (below_step (by repeat (first | (with_reducible first | exact HB.out | apply below_alloc | apply pw_below_drewN | apply below_drew1) | exact HB.out)) hb); have n1_ := Aside0.mk (hbox); have n2_ := Aside0.mk ((by rw [hg]; exact (below_size (by repeat (first | (with_reducible first | exact HB.out | apply below_alloc | apply pw_below_drewN | apply below_drew1) | exact HB.out))) : w.heap.size ≤ gb143)); have n3_ := Aside0.mk ((by rw [hg]; exact (below_size (by repeat (first | (with_reducible first | exact HB.out | apply below_alloc | apply pw_below_drewN | apply below_drew1) | exact HB.out))) : w.heap.size ≤ gb143)); clear HB; have HB := n0_; have BK143 := n1_; have GW143 := n2_; have GE143 := n3_; clear n0_ n1_ n2_ n3_; clear hb hbox hg; have hcz22_0 : w21.cell? ⟨gb143, 0, none⟩ = some (.int .i64 0) := (blk_cell BK143.out 0).trans rfl; have hcz22_1 : w21.cell? ⟨gb143, 1, none⟩ = some (.int .i64 0) := (blk_cell BK143.out 1).trans rfl; have hcz22_2 : w21.cell? ⟨gb143, 2, none⟩ = some (.bool false) := (blk_cell BK143.out 2).trans rfl; have hfz22_0 := blk_frozen BK143.out 0; have hfz22_1 := blk_frozen BK143.out 1; have hfz22_2 := blk_frozen BK143.out 2)); try go_wp2_with (first | ((with_reducible refine gate_dst (N := 10) rfl ?_); (try (refine gate_guard (by rfl) ?_; dsimp only)); refine box_event ?hg (N := 10) ?hd (cs := #[.int .i64 0, .int .i64 0, .bool false]) (t := 35) ?hr ?_; (case hd => rfl); (case hg => rfl); (case hr => first | (go_simp; done) | (go_simp; rfl)); intro gb143 hg w21 hbox hb; have n0_ := Aside0.mk (below_step (by repeat (first | (with_reducible first | exact HB.out | apply below_alloc | apply pw_below_drewN | apply below_drew1) | exact HB.out)) hb); have n1_ := Aside0.mk (hbox); have n2_ := Aside0.mk ((by rw [hg]; exact (below_size (by repeat (first | (with_reducible first | exact HB.out | apply below_alloc | apply pw_below_drewN | apply below_drew1) | exact HB.out))) : w.heap.size ≤ gb143)); have n3_ := Aside0.mk ((by rw [hg]; exact (below_size (by repeat (first | (with_reducible first | exact HB.out | apply below_alloc | apply pw_below_drewN | apply below_drew1) | exact HB.out))) : w.heap.size ≤ gb143)); clear HB; have HB := n0_; have BK143 := n1_; have GW143 := n2_; have GE143 := n3_; clear n0_ n1_ n2_ n3_; clear hb hbox hg; have hcz22_0 : w21.cell? ⟨gb143, 0, none⟩ = some (.int .i64 0) := (blk_cell BK143.out 0).trans rfl; have hcz22_1 : w21.cell? ⟨gb143, 1, none⟩ = some (.int .i64 0) := (blk_cell BK143.out 1).trans rfl; have hcz22_2 : w21.cell? ⟨gb143, 2, none⟩ = some (.bool false) := (blk_cell BK143.out 2).trans rfl; have hfz22_0 := blk_frozen BK143.out 0; have hfz22_1 := blk_frozen BK143.out 1; have hfz22_2 := blk_frozen BK143.out 2)))
                      go_roundg k2
                      case measure => have := HJ3.out; have := HK2.out; omega
                      case rel => exact ⟨(decide (((rd_T35 l0 x36_2).f1) ≥ (wrap64 (2 + (wrap64 (Int.tmod (IntKind.u64.wrap (a1)) 60)))))), (wrap64 (x36_2 + 1)), (by first | rfl | (simp; done) | (simp [*]; done)), (by first | rfl | (simp; done) | (simp [*]; done)), H', ⟨by have := HJ3.out; have := HK2.out; omega⟩, ⟨by repeat (first | (with_reducible first | exact HB.out | apply below_alloc | apply pw_below_drewN | apply below_drew1 | refine below_set ?_ GE143.out) | exact HB.out)⟩⟩
                · rw [if_neg c13] at H
                  exact absurd H (by simp)
              · rw [if_neg c12] at H
                exact absurd H (by simp)
            · rw [if_neg c11] at H
              have c11b0 : decide (x36_2 < (l0.length : Int)) = false := decide_eq_false c11
              clear c11
              by_cases c23 : x8_2 = true
              · subst c23
                have H1 : (if t141 < 0 then (darninglaw15_FitBest.j2 k2 l0 (wrap64 (2 + (wrap64 (Int.tmod (IntKind.u64.wrap (a1)) 60)))) l2 t141 true) else (if t141 ≥ (l0.length : Int) then (darninglaw15_FitBest.j2 k2 l0 (wrap64 (2 + (wrap64 (Int.tmod (IntKind.u64.wrap (a1)) 60)))) l2 t141 true) else (if 0 ≤ t141 then (if t141 < (l0.length : Int) then (if (rd_T35 l0 t141).f2 = true then (darninglaw15_FitBest.j2 k2 l0 (wrap64 (2 + (wrap64 (Int.tmod (IntKind.u64.wrap (a1)) 60)))) l2 t141 true) else (darninglaw15_FitBest.j2 k2 l0 (wrap64 (2 + (wrap64 (Int.tmod (IntKind.u64.wrap (a1)) 60)))) l2 t141 (decide (((rd_T35 l0 t141).f1) < (wrap64 (2 + (wrap64 (Int.tmod (IntKind.u64.wrap (a1)) 60)))))))) else (none)) else (none)))) = some r := by rw [if_pos rfl] at H; exact H
                clear H
                have H := H1
                clear H1
                have HC24 := Aside0.mk H
                clear H
                go_upto_region 13 with (fail)
                repeat (go_quiet (fail); go_upto_region 13 with (fail))
                go_cut [90] (fun v90 wc => ∃ (kq : Nat) (x90_23 : Bool), v90 = .bool x90_23 ∧ Aside0 (darninglaw15_FitBest.j2 kq l0 (wrap64 (2 + (wrap64 (Int.tmod (IntKind.u64.wrap (a1)) 60)))) l2 t141 x90_23 = some r) ∧ Aside0 (kq ≤ k2) ∧ Aside0 (Below w.heap.size w wc))
                case first =>
                  have H := HC24.out
                  clear HC24
                  by_cases c25 : t141 < 0
                  · rw [if_pos c25] at H
                    have c25b0 : decide (t141 < 0) = true := decide_eq_true c25
                    clear c25
                    (first | rw [c25b0] | (simp only [i64_w, i32_w]; rw [c25b0]) | skip)
                    have H' := Aside0.mk H
                    clear H
                    go_wp2
                    repeat (go_quiet (fail); try go_wp2)
                    go_meet
                    case rel => exact ⟨_, (true), (by first | rfl | (simp; done) | (simp [*]; done)), H', ⟨by have := HJ3.out; have := HK2.out; first | omega | exact Nat.le_refl _⟩, ⟨by repeat (first | (with_reducible first | exact HB.out | apply below_alloc | apply pw_below_drewN | apply below_drew1) | exact HB.out)⟩⟩
                  · rw [if_neg c25] at H
                    have c25b0 : decide (t141 < 0) = false := decide_eq_false c25
                    clear c25
                    (first | rw [c25b0] | (simp only [i64_w, i32_w]; rw [c25b0]) | skip)
                    by_cases c26 : t141 ≥ (l0.length : Int)
                    · rw [if_pos c26] at H
                      have c26b0 : decide ((l0.length : Int) ≤ t141) = true := decide_eq_true c26
                      clear c26
                      have H' := Aside0.mk H
                      clear H
                      go_wp2
                      repeat (go_quiet (fail); try go_wp2)
                      go_meet
                      case rel => exact ⟨_, (true), (by first | rfl | (simp; done) | (simp [*]; done)), H', ⟨by have := HJ3.out; have := HK2.out; first | omega | exact Nat.le_refl _⟩, ⟨by repeat (first | (with_reducible first | exact HB.out | apply below_alloc | apply pw_below_drewN | apply below_drew1) | exact HB.out)⟩⟩
                    · rw [if_neg c26] at H
                      have c26b0 : decide ((l0.length : Int) ≤ t141) = false := decide_eq_false c26
                      clear c26
                      by_cases c27 : 0 ≤ t141
                      · rw [if_pos c27] at H
                        have c27b0 : decide (0 ≤ t141) = true := decide_eq_true c27
                        clear c27
                        by_cases c28 : t141 < (l0.length : Int)
                        · rw [if_pos c28] at H
                          have c28b0 : decide (t141 < (l0.length : Int)) = true := decide_eq_true c28
                          clear c28
                          obtain ⟨bq29, hbq29⟩ : ∃ b_ : Bool, b_ = ((rd_T35 l0 t141).f2) := ⟨_, rfl⟩
                          replace H : (if bq29 = true then (darninglaw15_FitBest.j2 k2 l0 (wrap64 (2 + (wrap64 (Int.tmod (IntKind.u64.wrap (a1)) 60)))) l2 t141 true) else (darninglaw15_FitBest.j2 k2 l0 (wrap64 (2 + (wrap64 (Int.tmod (IntKind.u64.wrap (a1)) 60)))) l2 t141 (decide (((rd_T35 l0 t141).f1) < (wrap64 (2 + (wrap64 (Int.tmod (IntKind.u64.wrap (a1)) 60)))))))) = some r := by rw [← hbq29] at H; exact H
                          have Nbq29 := Aside0.mk hbq29
                          clear hbq29
                          (try rw [← Nbq29.out])
                          by_cases c30 : bq29 = true
                          · subst c30
                            have H1 : (darninglaw15_FitBest.j2 k2 l0 (wrap64 (2 + (wrap64 (Int.tmod (IntKind.u64.wrap (a1)) 60)))) l2 t141 true) = some r := by rw [if_pos rfl] at H; exact H
                            clear H
                            have H := H1
                            clear H1
                            have H' := Aside0.mk H
                            clear H
                            have p148 : 0 ≤ (t141 : Int) := of_decide_eq_true (by first | (with_reducible assumption) | assumption)
                            have q148 : t141 < (l0.length : Int) := of_decide_eq_true (by first | (with_reducible assumption) | assumption)
                            obtain ⟨ad148, e148, hx148_0, hx148_1, hx148_2⟩ := at_T35 HR0.out t141 p148 q148
                            (try rw [← Nbq29.out] at hx148_2)
                            cases e148
                            replace hx148_0 := (HB.out.cell (World.block_lt_of_cell? w _ hx148_0)).trans hx148_0
                            replace hx148_1 := (HB.out.cell (World.block_lt_of_cell? w _ hx148_1)).trans hx148_1
                            replace hx148_2 := (HB.out.cell (World.block_lt_of_cell? w _ hx148_2)).trans hx148_2
                            replace p148 := eq_true p148
                            replace q148 := eq_true q148
                            go_wp2
                            repeat (go_quiet (fail); try go_wp2)
                            go_meet
                            case rel => (try simp only [← Nbq29.out]); exact ⟨_, (true), (by first | rfl | (simp; done) | (simp [*]; done)), H', ⟨by have := HJ3.out; have := HK2.out; first | omega | exact Nat.le_refl _⟩, ⟨by repeat (first | (with_reducible first | exact HB.out | apply below_alloc | apply pw_below_drewN | apply below_drew1) | exact HB.out)⟩⟩
                          · replace c30 := Bool.eq_false_iff.mpr c30
                            subst c30
                            have H1 : (darninglaw15_FitBest.j2 k2 l0 (wrap64 (2 + (wrap64 (Int.tmod (IntKind.u64.wrap (a1)) 60)))) l2 t141 (decide (((rd_T35 l0 t141).f1) < (wrap64 (2 + (wrap64 (Int.tmod (IntKind.u64.wrap (a1)) 60))))))) = some r := by rw [if_neg (show ¬ (false = true) by decide)] at H; exact H
                            clear H
                            have H := H1
                            clear H1
                            have H' := Aside0.mk H
                            clear H
                            have p148 : 0 ≤ (t141 : Int) := of_decide_eq_true (by first | (with_reducible assumption) | assumption)
                            have q148 : t141 < (l0.length : Int) := of_decide_eq_true (by first | (with_reducible assumption) | assumption)
                            obtain ⟨ad148, e148, hx148_0, hx148_1, hx148_2⟩ := at_T35 HR0.out t141 p148 q148
                            (try rw [← Nbq29.out] at hx148_2)
                            cases e148
                            replace hx148_0 := (HB.out.cell (World.block_lt_of_cell? w _ hx148_0)).trans hx148_0
                            replace hx148_1 := (HB.out.cell (World.block_lt_of_cell? w _ hx148_1)).trans hx148_1
                            replace hx148_2 := (HB.out.cell (World.block_lt_of_cell? w _ hx148_2)).trans hx148_2
                            replace p148 := eq_true p148
                            replace q148 := eq_true q148
                            have p149 : 0 ≤ (t141 : Int) := of_decide_eq_true (by first | (with_reducible assumption) | assumption)
                            have q149 : t141 < (l0.length : Int) := of_decide_eq_true (by first | (with_reducible assumption) | assumption)
                            obtain ⟨ad149, e149, hx149_0, hx149_1, hx149_2⟩ := at_T35 HR0.out t141 p149 q149
                            (try rw [← Nbq29.out] at hx149_2)
                            obtain rfl : ad148 = ad149 := (by injection e149)
                            replace hx149_0 := (HB.out.cell (World.block_lt_of_cell? w _ hx149_0)).trans hx149_0
                            replace hx149_1 := (HB.out.cell (World.block_lt_of_cell? w _ hx149_1)).trans hx149_1
                            replace hx149_2 := (HB.out.cell (World.block_lt_of_cell? w _ hx149_2)).trans hx149_2
                            replace p149 := eq_true p149
                            replace q149 := eq_true q149
                            go_wp2
                            repeat (go_quiet (fail); try go_wp2)
                            go_meet
                            case rel => (try simp only [← Nbq29.out]); exact ⟨_, (decide (((rd_T35 l0 t141).f1) < (wrap64 (2 + (wrap64 (Int.tmod (IntKind.u64.wrap (a1)) 60)))))), (by first | rfl | (simp; done) | (simp [*]; done)), H', ⟨by have := HJ3.out; have := HK2.out; first | omega | exact Nat.le_refl _⟩, ⟨by repeat (first | (with_reducible first | exact HB.out | apply below_alloc | apply pw_below_drewN | apply below_drew1) | exact HB.out)⟩⟩
                        · rw [if_neg c28] at H
                          exact absurd H (by simp)
                      · rw [if_neg c27] at H
                        exact absurd H (by simp)
                case rest =>
                  clear HC24
                  try clear c1
                  try clear p1
                  try clear q1
                  try clear hx1
                  try clear c2
                  try clear p2
                  try clear q2
                  try clear c3
                  try clear c5
                  try clear c5b0
                  try clear c5b1
                  try clear c6
                  try clear p6
                  try clear c11
                  try clear c11b0
                  try clear c12
                  try clear c12b0
                  try clear c13
                  try clear c13b0
                  try clear c14
                  try clear p14
                  try clear q14
                  try clear hx14
                  try clear q17
                  try clear c18
                  try clear c23
                  try clear c25
                  try clear c25b0
                  try clear c26
                  try clear c26b0
                  try clear c27
                  try clear c27b0
                  try clear c28
                  try clear c28b0
                  try clear q29
                  try clear c30
                  try clear hcz16_0
                  try clear hcz16_1
                  try clear hcz16_2
                  try clear hcz20_0
                  try clear hcz20_1
                  try clear hcz20_2
                  try clear hcz22_0
                  try clear hcz22_1
                  try clear hcz22_2
                  try clear hfz16_0
                  try clear hfz16_1
                  try clear hfz16_2
                  try clear hfz20_0
                  try clear hfz20_1
                  try clear hfz20_2
                  try clear hfz22_0
                  try clear hfz22_1
                  try clear hfz22_2
                  try clear hx142_0
                  try clear hx142_1
                  try clear hx142_2
                  try clear hx148_0
                  try clear hx148_1
                  try clear hx148_2
                  try clear hx149_0
                  try clear hx149_1
                  try clear hx149_2
                  try clear p142
                  try clear p148
                  try clear p149
                  try clear p2
                  try clear p6
                  try clear q142
                  try clear q148
                  try clear q149
                  obtain ⟨kq, x90_23, rfl, HA, HJ23, HB⟩ := hcut
                  cases kq with
                  | zero => exact absurd HA.out (by simp [darninglaw15_FitBest.j2])
                  | succ kj23 =>
                    have H := HA.out
                    clear HA
                    simp only [darninglaw15_FitBest.j2] at H
                    by_cases c31 : x90_23 = true
                    · subst c31
                      have H1 : (some false) = some r := by rw [if_pos rfl] at H; exact H
                      clear H
                      have H := H1
                      clear H1
                      obtain rfl := Option.some.inj H
                      go_wp2
                      repeat (go_quiet (fail); try go_wp2)
                      go_ret
                      exact ⟨by first | rfl | (simp [errW_none, errW_some] <;> rfl) | (simp [*, errW_none, errW_some] <;> rfl), by repeat (first | (with_reducible first | exact HB.out | apply below_alloc | apply pw_below_drewN | apply below_drew1) | exact HB.out)⟩
                    · replace c31 := Bool.eq_false_iff.mpr c31
                      subst c31
                      have H1 : ((fit_Fits.f kj23 l0 (wrap64 (2 + (wrap64 (Int.tmod (IntKind.u64.wrap (a1)) 60))))).bind fun t150 => (darninglaw15_FitBest.l1 kj23 l0 (wrap64 (2 + (wrap64 (Int.tmod (IntKind.u64.wrap (a1)) 60)))) l2 t141 false t150 (t150.length : Int) 0)) = some r := by rw [if_neg (show ¬ (false = true) by decide)] at H; exact H
                      clear H
                      have H := H1
                      clear H1
                      replace H := Option.bind_eq_some_iff.mp H
                      obtain ⟨t150, A320, H⟩ := H
                      replace H : (darninglaw15_FitBest.l1 kj23 l0 (wrap64 (2 + (wrap64 (Int.tmod (IntKind.u64.wrap (a1)) 60)))) l2 t141 false t150 (t150.length : Int) 0) = some r := H
                      have A32 := Aside0.mk A320
                      clear A320
                      have H' := Aside0.mk H
                      clear H
                      go_wp2_with (first | (go_at_call 23; (with_reducible refine (fit_Fits.calls kj23 _ _ l0 (wrap64 (2 + (wrap64 (Int.tmod (IntKind.u64.wrap (a1)) 60)))) t150 _ ?side1 ?side2 A32.out).mono ?_); (case side1 => repeat (first | exact (Kd.C_below HR0.out HB.out) | (with_reducible refine Kd.C_alloc ?_ _) | (with_reducible refine Kd.C_drewN ?_ _) | (with_reducible refine Kd.C_drew ?_))); (case side2 => exact HC0.out); rintro e w33 ⟨v151, rfl, ho0, hb⟩; have n0_ := Aside0.mk (Kd.R_lower ho0 (below_size (by repeat (first | (with_reducible first | exact HB.out | apply below_alloc | apply pw_below_drewN | apply below_drew1) | exact HB.out)))); have n1_ := Aside0.mk (below_step (by repeat (first | (with_reducible first | exact HB.out | apply below_alloc | apply pw_below_drewN | apply below_drew1) | exact HB.out)) hb); clear HB; have HO152 := n0_; have HB := n1_; clear n0_ n1_; (try clear hb); (try clear hb2); (try clear hk); (try clear hi); (try clear ho0); obtain ⟨Ao34, co34, eo34⟩ := Kd.R_slice HO152.out; subst eo34))
                      repeat (go_quiet (first | (go_at_call 23; (with_reducible refine (fit_Fits.calls kj23 _ _ l0 (wrap64 (2 + (wrap64 (Int.tmod (IntKind.u64.wrap (a1)) 60)))) t150 _ ?side1 ?side2 A32.out).mono ?_); (case side1 => repeat (first | exact (Kd.C_below HR0.out HB.out) | (with_reducible refine Kd.C_alloc ?_ _) | (with_reducible refine Kd.C_drewN ?_ _) | (with_reducible refine Kd.C_drew ?_))); (case side2 => exact HC0.out); rintro e w33 ⟨v151, rfl, ho0, hb⟩; have n0_ := Aside0.mk (Kd.R_lower ho0 (below_size (by repeat (first | (with_reducible first | exact HB.out | apply below_alloc | apply pw_below_drewN | apply below_drew1) | exact HB.out)))); have n1_ := Aside0.mk (below_step (by repeat (first | (with_reducible first | exact HB.out | apply below_alloc | apply pw_below_drewN | apply below_drew1) | exact HB.out)) hb); clear HB; have HO152 := n0_; have HB := n1_; clear n0_ n1_; (try clear hb); (try clear hb2); (try clear hk); (try clear hi); (try clear ho0); obtain ⟨Ao34, co34, eo34⟩ := Kd.R_slice HO152.out; subst eo34)); try go_wp2_with (first | (go_at_call 23; (with_reducible refine (fit_Fits.calls kj23 _ _ l0 (wrap64 (2 + (wrap64 (Int.tmod (IntKind.u64.wrap (a1)) 60)))) t150 _ ?side1 ?side2 A32.out).mono ?_); (case side1 => repeat (first | exact (Kd.C_below HR0.out HB.out) | (with_reducible refine Kd.C_alloc ?_ _) | (with_reducible refine Kd.C_drewN ?_ _) | (with_reducible refine Kd.C_drew ?_))); (case side2 => exact HC0.out); rintro e w33 ⟨v151, rfl, ho0, hb⟩; have n0_ := Aside0.mk (Kd.R_lower ho0 (below_size (by repeat (first | (with_reducible first | exact HB.out | apply below_alloc | apply pw_below_drewN | apply below_drew1) | exact HB.out)))); have n1_ := Aside0.mk (below_step (by repeat (first | (with_reducible first | exact HB.out | apply below_alloc | apply pw_below_drewN | apply below_drew1) | exact HB.out)) hb); clear HB; have HO152 := n0_; have HB := n1_; clear n0_ n1_; (try clear hb); (try clear hb2); (try clear hk); (try clear hi); (try clear ho0); obtain ⟨Ao34, co34, eo34⟩ := Kd.R_slice HO152.out; subst eo34)))
                      go_loopg [11, 95] kj23 (fun kq v11 v95 w' => ∃ (x11_4 : Bool) (x95_4 : Int), v11 = .bool x11_4 ∧ v95 = .int .i64 x95_4 ∧ Aside0 (darninglaw15_FitBest.l1 kq l0 (wrap64 (2 + (wrap64 (Int.tmod (IntKind.u64.wrap (a1)) 60)))) l2 t141 x11_4 t150 (t150.length : Int) x95_4 = some r) ∧ Aside0 (kq ≤ kj23) ∧ Aside0 (Kd.R (Kd.int .i64) 3 w' w.heap.size (fun _ => True) (.slice Ao34 t150.length co34) t150) ∧ Aside0 (Below w.heap.size w w'))
                      case atStart => exact ⟨(false), (0), (by first | rfl | (simp; done) | (simp [*]; done)), (by first | rfl | (simp; done) | (simp [*]; done)), H', ⟨Nat.le_refl _⟩, ⟨by (with_reducible repeat (first | apply Kd.R_alloc | apply Kd.R_drewN | apply Kd.R_drew)); exact HO152.out⟩, ⟨by repeat (first | (with_reducible first | exact HB.out | apply below_alloc | apply pw_below_drewN | apply below_drew1) | exact HB.out)⟩⟩
                      case round =>
                        clear H'
                        try clear c1
                        try clear p1
                        try clear q1
                        try clear hx1
                        try clear c2
                        try clear p2
                        try clear q2
                        try clear c3
                        try clear c5
                        try clear c5b0
                        try clear c5b1
                        try clear c6
                        try clear p6
                        try clear c11
                        try clear c11b0
                        try clear c12
                        try clear c12b0
                        try clear c13
                        try clear c13b0
                        try clear c14
                        try clear p14
                        try clear q14
                        try clear hx14
                        try clear q17
                        try clear c18
                        try clear c23
                        try clear c25
                        try clear c25b0
                        try clear c26
                        try clear c26b0
                        try clear c27
                        try clear c27b0
                        try clear c28
                        try clear c28b0
                        try clear q29
                        try clear c30
                        try clear c31
                        try clear hcz16_0
                        try clear hcz16_1
                        try clear hcz16_2
                        try clear hcz20_0
                        try clear hcz20_1
                        try clear hcz20_2
                        try clear hcz22_0
                        try clear hcz22_1
                        try clear hcz22_2
                        try clear hfz16_0
                        try clear hfz16_1
                        try clear hfz16_2
                        try clear hfz20_0
                        try clear hfz20_1
                        try clear hfz20_2
                        try clear hfz22_0
                        try clear hfz22_1
                        try clear hfz22_2
                        try clear hx142_0
                        try clear hx142_1
                        try clear hx142_2
                        try clear hx148_0
                        try clear hx148_1
                        try clear hx148_2
                        try clear hx149_0
                        try clear hx149_1
                        try clear hx149_2
                        try clear p1
                        try clear p14
                        try clear p142
                        try clear p148
                        try clear p149
                        try clear p2
                        try clear p6
                        try clear q1
                        try clear q14
                        try clear q142
                        try clear q148
                        try clear q149
                        try clear q17
                        try clear q2
                        try clear q29
                        obtain ⟨x11_4, x95_4, rfl, rfl, HA, HK4, HO_93, HB⟩ := hrel
                        cases gk with
                        | zero => exact absurd HA.out (by simp [darninglaw15_FitBest.l1])
                        | succ k4 =>
                          have H := HA.out
                          clear HA
                          simp only [darninglaw15_FitBest.l1] at H
                          by_cases c35 : x95_4 < (t150.length : Int)
                          · rw [if_pos c35] at H
                            have c35b0 : decide (x95_4 < (t150.length : Int)) = true := decide_eq_true c35
                            clear c35
                            by_cases c36 : 0 ≤ x95_4
                            · rw [if_pos c36] at H
                              have c36b0 : decide (0 ≤ x95_4) = true := decide_eq_true c36
                              clear c36
                              by_cases c37 : x95_4 < (t150.length : Int)
                              · rw [if_pos c37] at H
                                have c37b0 : decide (x95_4 < (t150.length : Int)) = true := decide_eq_true c37
                                clear c37
                                have HC38 := Aside0.mk H
                                clear H
                                have p153 : 0 ≤ (x95_4 : Int) := of_decide_eq_true (by first | (with_reducible assumption) | assumption)
                                have q153 : x95_4 < (t150.length : Int) := of_decide_eq_true (by first | (with_reducible assumption) | assumption)
                                obtain ⟨ad153, e153, hx153_0⟩ := Kd.at_int (Kd.R_reads' HO_93.out).2.2 x95_4 p153 q153
                                cases e153
                                replace p153 := eq_true p153
                                replace q153 := eq_true q153
                                go_upto_region 19 with (fail)
                                repeat (go_quiet (fail); go_upto_region 19 with (fail))
                                go_cut [119] (fun v119 wc => ∃ (kq : Nat) (x119_37 : Bool), v119 = .bool x119_37 ∧ Aside0 (darninglaw15_FitBest.j4 kq l0 (wrap64 (2 + (wrap64 (Int.tmod (IntKind.u64.wrap (a1)) 60)))) l2 t141 x11_4 (rd t150 x95_4) t150 (t150.length : Int) x95_4 x119_37 = some r) ∧ Aside0 (kq ≤ k4) ∧ Aside0 (Kd.R (Kd.int .i64) 3 wc w.heap.size (fun _ => True) (.slice (some ad153) t150.length co34) t150) ∧ Aside0 (Below w.heap.size w wc))
                                case first =>
                                  have H := HC38.out
                                  clear HC38
                                  by_cases c39 : (rd t150 x95_4) < 0
                                  · rw [if_pos c39] at H
                                    have c39b0 : decide ((rd t150 x95_4) < 0) = true := decide_eq_true c39
                                    clear c39
                                    (first | rw [c39b0] | (simp only [i64_w, i32_w]; rw [c39b0]) | skip)
                                    have H' := Aside0.mk H
                                    clear H
                                    go_wp2
                                    repeat (go_quiet (fail); try go_wp2)
                                    go_meet
                                    case rel => exact ⟨_, (true), (by first | rfl | (simp; done) | (simp [*]; done)), H', ⟨by have := HJ3.out; have := HK2.out; have := HJ23.out; have := HK4.out; first | omega | exact Nat.le_refl _⟩, ⟨by (with_reducible repeat (first | apply Kd.R_alloc | apply Kd.R_drewN | apply Kd.R_drew)); exact HO_93.out⟩, ⟨by repeat (first | (with_reducible first | exact HB.out | apply below_alloc | apply pw_below_drewN | apply below_drew1) | exact HB.out)⟩⟩
                                  · rw [if_neg c39] at H
                                    have c39b0 : decide ((rd t150 x95_4) < 0) = false := decide_eq_false c39
                                    clear c39
                                    (first | rw [c39b0] | (simp only [i64_w, i32_w]; rw [c39b0]) | skip)
                                    by_cases c40 : (rd t150 x95_4) ≥ (l0.length : Int)
                                    · rw [if_pos c40] at H
                                      have c40b0 : decide ((l0.length : Int) ≤ (rd t150 x95_4)) = true := decide_eq_true c40
                                      clear c40
                                      have H' := Aside0.mk H
                                      clear H
                                      go_wp2
                                      repeat (go_quiet (fail); try go_wp2)
                                      go_meet
                                      case rel => exact ⟨_, (true), (by first | rfl | (simp; done) | (simp [*]; done)), H', ⟨by have := HJ3.out; have := HK2.out; have := HJ23.out; have := HK4.out; first | omega | exact Nat.le_refl _⟩, ⟨by (with_reducible repeat (first | apply Kd.R_alloc | apply Kd.R_drewN | apply Kd.R_drew)); exact HO_93.out⟩, ⟨by repeat (first | (with_reducible first | exact HB.out | apply below_alloc | apply pw_below_drewN | apply below_drew1) | exact HB.out)⟩⟩
                                    · rw [if_neg c40] at H
                                      have c40b0 : decide ((l0.length : Int) ≤ (rd t150 x95_4)) = false := decide_eq_false c40
                                      clear c40
                                      by_cases c41 : 0 ≤ (rd t150 x95_4)
                                      · rw [if_pos c41] at H
                                        have c41b0 : decide (0 ≤ (rd t150 x95_4)) = true := decide_eq_true c41
                                        clear c41
                                        by_cases c42 : (rd t150 x95_4) < (l0.length : Int)
                                        · rw [if_pos c42] at H
                                          have c42b0 : decide ((rd t150 x95_4) < (l0.length : Int)) = true := decide_eq_true c42
                                          clear c42
                                          by_cases c43 : 0 ≤ t141
                                          · rw [if_pos c43] at H
                                            have c43b0 : decide (0 ≤ t141) = true := decide_eq_true c43
                                            clear c43
                                            by_cases c44 : t141 < (l0.length : Int)
                                            · rw [if_pos c44] at H
                                              have c44b0 : decide (t141 < (l0.length : Int)) = true := decide_eq_true c44
                                              clear c44
                                              have H' := Aside0.mk H
                                              clear H
                                              have p154 : 0 ≤ ((rd t150 x95_4) : Int) := of_decide_eq_true (by first | (with_reducible assumption) | assumption)
                                              have q154 : (rd t150 x95_4) < (l0.length : Int) := of_decide_eq_true (by first | (with_reducible assumption) | assumption)
                                              obtain ⟨ad154, e154, hx154_0, hx154_1, hx154_2⟩ := at_T35 HR0.out (rd t150 x95_4) p154 q154
                                              cases e154
                                              replace hx154_0 := (HB.out.cell (World.block_lt_of_cell? w _ hx154_0)).trans hx154_0
                                              replace hx154_1 := (HB.out.cell (World.block_lt_of_cell? w _ hx154_1)).trans hx154_1
                                              replace hx154_2 := (HB.out.cell (World.block_lt_of_cell? w _ hx154_2)).trans hx154_2
                                              replace p154 := eq_true p154
                                              replace q154 := eq_true q154
                                              have p155 : 0 ≤ (t141 : Int) := of_decide_eq_true (by first | (with_reducible assumption) | assumption)
                                              have q155 : t141 < (l0.length : Int) := of_decide_eq_true (by first | (with_reducible assumption) | assumption)
                                              obtain ⟨ad155, e155, hx155_0, hx155_1, hx155_2⟩ := at_T35 HR0.out t141 p155 q155
                                              obtain rfl : ad154 = ad155 := (by injection e155)
                                              replace hx155_0 := (HB.out.cell (World.block_lt_of_cell? w _ hx155_0)).trans hx155_0
                                              replace hx155_1 := (HB.out.cell (World.block_lt_of_cell? w _ hx155_1)).trans hx155_1
                                              replace hx155_2 := (HB.out.cell (World.block_lt_of_cell? w _ hx155_2)).trans hx155_2
                                              replace p155 := eq_true p155
                                              replace q155 := eq_true q155
                                              go_wp2
                                              repeat (go_quiet (fail); try go_wp2)
                                              go_meet
                                              case rel => exact ⟨_, ((((rd_T35 l0 (rd t150 x95_4)).f1) != ((rd_T35 l0 t141).f1))), (by first | rfl | (simp; done) | (simp [*]; done)), H', ⟨by have := HJ3.out; have := HK2.out; have := HJ23.out; have := HK4.out; first | omega | exact Nat.le_refl _⟩, ⟨by (with_reducible repeat (first | apply Kd.R_alloc | apply Kd.R_drewN | apply Kd.R_drew)); exact HO_93.out⟩, ⟨by repeat (first | (with_reducible first | exact HB.out | apply below_alloc | apply pw_below_drewN | apply below_drew1) | exact HB.out)⟩⟩
                                            · rw [if_neg c44] at H
                                              exact absurd H (by simp)
                                          · rw [if_neg c43] at H
                                            exact absurd H (by simp)
                                        · rw [if_neg c42] at H
                                          exact absurd H (by simp)
                                      · rw [if_neg c41] at H
                                        exact absurd H (by simp)
                                case rest =>
                                  clear HC38
                                  try clear c1
                                  try clear p1
                                  try clear q1
                                  try clear hx1
                                  try clear c2
                                  try clear p2
                                  try clear q2
                                  try clear c3
                                  try clear c4
                                  try clear c5
                                  try clear c5b0
                                  try clear c5b1
                                  try clear c6
                                  try clear p6
                                  try clear c11
                                  try clear c11b0
                                  try clear c12
                                  try clear c12b0
                                  try clear c13
                                  try clear c13b0
                                  try clear c14
                                  try clear p14
                                  try clear q14
                                  try clear hx14
                                  try clear p15
                                  try clear q15
                                  try clear hx15
                                  try clear q17
                                  try clear c18
                                  try clear c23
                                  try clear c25
                                  try clear c25b0
                                  try clear c26
                                  try clear c26b0
                                  try clear c27
                                  try clear c27b0
                                  try clear c28
                                  try clear c28b0
                                  try clear q29
                                  try clear c30
                                  try clear c31
                                  try clear c35
                                  try clear c35b0
                                  try clear c36
                                  try clear c36b0
                                  try clear c37
                                  try clear c37b0
                                  try clear c39
                                  try clear c39b0
                                  try clear c40
                                  try clear c40b0
                                  try clear c41
                                  try clear c41b0
                                  try clear c42
                                  try clear c42b0
                                  try clear c43
                                  try clear c43b0
                                  try clear c44
                                  try clear c44b0
                                  try clear hcz16_0
                                  try clear hcz16_1
                                  try clear hcz16_2
                                  try clear hcz20_0
                                  try clear hcz20_1
                                  try clear hcz20_2
                                  try clear hcz22_0
                                  try clear hcz22_1
                                  try clear hcz22_2
                                  try clear hfz16_0
                                  try clear hfz16_1
                                  try clear hfz16_2
                                  try clear hfz20_0
                                  try clear hfz20_1
                                  try clear hfz20_2
                                  try clear hfz22_0
                                  try clear hfz22_1
                                  try clear hfz22_2
                                  try clear hx142_0
                                  try clear hx142_1
                                  try clear hx142_2
                                  try clear hx148_0
                                  try clear hx148_1
                                  try clear hx148_2
                                  try clear hx149_0
                                  try clear hx149_1
                                  try clear hx149_2
                                  try clear hx153_0
                                  try clear hx154_0
                                  try clear hx154_1
                                  try clear hx154_2
                                  try clear hx155_0
                                  try clear hx155_1
                                  try clear hx155_2
                                  try clear p1
                                  try clear p14
                                  try clear p142
                                  try clear p148
                                  try clear p149
                                  try clear p153
                                  try clear p154
                                  try clear p155
                                  try clear p2
                                  try clear p6
                                  try clear q1
                                  try clear q14
                                  try clear q142
                                  try clear q148
                                  try clear q149
                                  try clear q153
                                  try clear q154
                                  try clear q155
                                  try clear q17
                                  try clear q2
                                  try clear q29
                                  obtain ⟨kq, x119_37, rfl, HA, HJ37, HO_93, HB⟩ := hcut
                                  cases kq with
                                  | zero => exact absurd HA.out (by simp [darninglaw15_FitBest.j4])
                                  | succ kj37 =>
                                    have H := HA.out
                                    clear HA
                                    simp only [darninglaw15_FitBest.j4] at H
                                    by_cases c45 : x119_37 = true
                                    · subst c45
                                      have H1 : (some false) = some r := by rw [if_pos rfl] at H; exact H
                                      clear H
                                      have H := H1
                                      clear H1
                                      obtain rfl := Option.some.inj H
                                      go_wp2
                                      repeat (go_quiet (fail); try go_wp2)
                                      go_ret
                                      exact ⟨by first | rfl | (simp [errW_none, errW_some] <;> rfl) | (simp [*, errW_none, errW_some] <;> rfl), by repeat (first | (with_reducible first | exact HB.out | apply below_alloc | apply pw_below_drewN | apply below_drew1) | exact HB.out)⟩
                                    · replace c45 := Bool.eq_false_iff.mpr c45
                                      subst c45
                                      have H1 : (if x11_4 = true then (darninglaw15_FitBest.j5 kj37 l0 (wrap64 (2 + (wrap64 (Int.tmod (IntKind.u64.wrap (a1)) 60)))) l2 t141 true (rd t150 x95_4) t150 (t150.length : Int) x95_4) else (darninglaw15_FitBest.j5 kj37 l0 (wrap64 (2 + (wrap64 (Int.tmod (IntKind.u64.wrap (a1)) 60)))) l2 t141 ((rd t150 x95_4) == t141) (rd t150 x95_4) t150 (t150.length : Int) x95_4)) = some r := by rw [if_neg (show ¬ (false = true) by decide)] at H; exact H
                                      clear H
                                      have H := H1
                                      clear H1
                                      have HC46 := Aside0.mk H
                                      clear H
                                      go_upto_region 21 with (fail)
                                      repeat (go_quiet (fail); go_upto_region 21 with (fail))
                                      go_cut [11] (fun v11 wc => ∃ (kq : Nat) (x11_45 : Bool), v11 = .bool x11_45 ∧ Aside0 (darninglaw15_FitBest.j5 kq l0 (wrap64 (2 + (wrap64 (Int.tmod (IntKind.u64.wrap (a1)) 60)))) l2 t141 x11_45 (rd t150 x95_4) t150 (t150.length : Int) x95_4 = some r) ∧ Aside0 (kq ≤ kj37) ∧ Aside0 (Kd.R (Kd.int .i64) 3 wc w.heap.size (fun _ => True) (.slice (some ad153) t150.length co34) t150) ∧ Aside0 (Below w.heap.size w wc))
                                      case first =>
                                        have H := HC46.out
                                        clear HC46
                                        by_cases c47 : x11_4 = true
                                        · subst c47
                                          have H1 : (darninglaw15_FitBest.j5 kj37 l0 (wrap64 (2 + (wrap64 (Int.tmod (IntKind.u64.wrap (a1)) 60)))) l2 t141 true (rd t150 x95_4) t150 (t150.length : Int) x95_4) = some r := by rw [if_pos rfl] at H; exact H
                                          clear H
                                          have H := H1
                                          clear H1
                                          have H' := Aside0.mk H
                                          clear H
                                          go_wp2
                                          repeat (go_quiet (fail); try go_wp2)
                                          go_meet
                                          case rel => exact ⟨_, (true), (by first | rfl | (simp; done) | (simp [*]; done)), H', ⟨by have := HJ3.out; have := HK2.out; have := HJ23.out; have := HK4.out; have := HJ37.out; first | omega | exact Nat.le_refl _⟩, ⟨by (with_reducible repeat (first | apply Kd.R_alloc | apply Kd.R_drewN | apply Kd.R_drew)); exact HO_93.out⟩, ⟨by repeat (first | (with_reducible first | exact HB.out | apply below_alloc | apply pw_below_drewN | apply below_drew1) | exact HB.out)⟩⟩
                                        · replace c47 := Bool.eq_false_iff.mpr c47
                                          subst c47
                                          have H1 : (darninglaw15_FitBest.j5 kj37 l0 (wrap64 (2 + (wrap64 (Int.tmod (IntKind.u64.wrap (a1)) 60)))) l2 t141 ((rd t150 x95_4) == t141) (rd t150 x95_4) t150 (t150.length : Int) x95_4) = some r := by rw [if_neg (show ¬ (false = true) by decide)] at H; exact H
                                          clear H
                                          have H := H1
                                          clear H1
                                          have H' := Aside0.mk H
                                          clear H
                                          go_wp2
                                          repeat (go_quiet (fail); try go_wp2)
                                          go_meet
                                          case rel => exact ⟨_, (((rd t150 x95_4) == t141)), (by first | rfl | (simp; done) | (simp [*]; done)), H', ⟨by have := HJ3.out; have := HK2.out; have := HJ23.out; have := HK4.out; have := HJ37.out; first | omega | exact Nat.le_refl _⟩, ⟨by (with_reducible repeat (first | apply Kd.R_alloc | apply Kd.R_drewN | apply Kd.R_drew)); exact HO_93.out⟩, ⟨by repeat (first | (with_reducible first | exact HB.out | apply below_alloc | apply pw_below_drewN | apply below_drew1) | exact HB.out)⟩⟩
                                      case rest =>
                                        clear HC46
                                        try clear c1
                                        try clear p1
                                        try clear q1
                                        try clear hx1
                                        try clear c2
                                        try clear p2
                                        try clear q2
                                        try clear c3
                                        try clear c4
                                        try clear c5
                                        try clear c5b0
                                        try clear c5b1
                                        try clear c6
                                        try clear p6
                                        try clear c11
                                        try clear c11b0
                                        try clear c12
                                        try clear c12b0
                                        try clear c13
                                        try clear c13b0
                                        try clear c14
                                        try clear p14
                                        try clear q14
                                        try clear hx14
                                        try clear p15
                                        try clear q15
                                        try clear hx15
                                        try clear q17
                                        try clear c18
                                        try clear c23
                                        try clear c25
                                        try clear c25b0
                                        try clear c26
                                        try clear c26b0
                                        try clear c27
                                        try clear c27b0
                                        try clear c28
                                        try clear c28b0
                                        try clear q29
                                        try clear c30
                                        try clear c31
                                        try clear c35
                                        try clear c35b0
                                        try clear c36
                                        try clear c36b0
                                        try clear c37
                                        try clear c37b0
                                        try clear c39
                                        try clear c39b0
                                        try clear c40
                                        try clear c40b0
                                        try clear c41
                                        try clear c41b0
                                        try clear c42
                                        try clear c42b0
                                        try clear c43
                                        try clear c43b0
                                        try clear c44
                                        try clear c44b0
                                        try clear c45
                                        try clear c47
                                        try clear hcz16_0
                                        try clear hcz16_1
                                        try clear hcz16_2
                                        try clear hcz20_0
                                        try clear hcz20_1
                                        try clear hcz20_2
                                        try clear hcz22_0
                                        try clear hcz22_1
                                        try clear hcz22_2
                                        try clear hfz16_0
                                        try clear hfz16_1
                                        try clear hfz16_2
                                        try clear hfz20_0
                                        try clear hfz20_1
                                        try clear hfz20_2
                                        try clear hfz22_0
                                        try clear hfz22_1
                                        try clear hfz22_2
                                        try clear hx142_0
                                        try clear hx142_1
                                        try clear hx142_2
                                        try clear hx148_0
                                        try clear hx148_1
                                        try clear hx148_2
                                        try clear hx149_0
                                        try clear hx149_1
                                        try clear hx149_2
                                        try clear hx153_0
                                        try clear hx154_0
                                        try clear hx154_1
                                        try clear hx154_2
                                        try clear hx155_0
                                        try clear hx155_1
                                        try clear hx155_2
                                        try clear p1
                                        try clear p14
                                        try clear p142
                                        try clear p148
                                        try clear p149
                                        try clear p15
                                        try clear p153
                                        try clear p154
                                        try clear p155
                                        try clear p2
                                        try clear p6
                                        try clear q1
                                        try clear q14
                                        try clear q142
                                        try clear q148
                                        try clear q149
                                        try clear q15
                                        try clear q153
                                        try clear q154
                                        try clear q155
                                        try clear q17
                                        try clear q2
                                        try clear q29
                                        obtain ⟨kq, x11_45, rfl, HA, HJ45, HO_93, HB⟩ := hcut
                                        cases kq with
                                        | zero => exact absurd HA.out (by simp [darninglaw15_FitBest.j5])
                                        | succ kj45 =>
                                          have H := HA.out
                                          clear HA
                                          simp only [darninglaw15_FitBest.j5] at H
                                          by_cases c48 : 0 ≤ (rd t150 x95_4)
                                          · rw [if_pos c48] at H
                                            have c48b0 : decide (0 ≤ (rd t150 x95_4)) = true := decide_eq_true c48
                                            clear c48
                                            by_cases c49 : (rd t150 x95_4) < (l0.length : Int)
                                            · rw [if_pos c49] at H
                                              have c49b0 : decide ((rd t150 x95_4) < (l0.length : Int)) = true := decide_eq_true c49
                                              clear c49
                                              replace H := Option.bind_eq_some_iff.mp H
                                              obtain ⟨t157, A500, H⟩ := H
                                              replace H : (if 0 ≤ t141 then (if t141 < (l0.length : Int) then ((darninglaw15_page.f ((rd_T35 l0 t141).f0) l2).bind fun t159 => (if t157 < t159 then (some false) else (darninglaw15_FitBest.l1 kj45 l0 (wrap64 (2 + (wrap64 (Int.tmod (IntKind.u64.wrap (a1)) 60)))) l2 t141 x11_45 t150 (t150.length : Int) (wrap64 (x95_4 + 1))))) else (none)) else (none)) = some r := H
                                              have A50 := Aside0.mk A500
                                              clear A500
                                              by_cases c51 : 0 ≤ t141
                                              · rw [if_pos c51] at H
                                                have c51b0 : decide (0 ≤ t141) = true := decide_eq_true c51
                                                clear c51
                                                by_cases c52 : t141 < (l0.length : Int)
                                                · rw [if_pos c52] at H
                                                  have c52b0 : decide (t141 < (l0.length : Int)) = true := decide_eq_true c52
                                                  clear c52
                                                  replace H := Option.bind_eq_some_iff.mp H
                                                  obtain ⟨t159, A530, H⟩ := H
                                                  replace H : (if t157 < t159 then (some false) else (darninglaw15_FitBest.l1 kj45 l0 (wrap64 (2 + (wrap64 (Int.tmod (IntKind.u64.wrap (a1)) 60)))) l2 t141 x11_45 t150 (t150.length : Int) (wrap64 (x95_4 + 1)))) = some r := H
                                                  have A53 := Aside0.mk A530
                                                  clear A530
                                                  by_cases c54 : t157 < t159
                                                  · rw [if_pos c54] at H
                                                    have c54b0 : decide (t157 < t159) = true := decide_eq_true c54
                                                    clear c54
                                                    obtain rfl := Option.some.inj H
                                                    have p156 : 0 ≤ ((rd t150 x95_4) : Int) := of_decide_eq_true (by first | (with_reducible assumption) | assumption)
                                                    have q156 : (rd t150 x95_4) < (l0.length : Int) := of_decide_eq_true (by first | (with_reducible assumption) | assumption)
                                                    obtain ⟨ad156, e156, hx156_0, hx156_1, hx156_2⟩ := at_T35 HR0.out (rd t150 x95_4) p156 q156
                                                    cases e156
                                                    replace hx156_0 := (HB.out.cell (World.block_lt_of_cell? w _ hx156_0)).trans hx156_0
                                                    replace hx156_1 := (HB.out.cell (World.block_lt_of_cell? w _ hx156_1)).trans hx156_1
                                                    replace hx156_2 := (HB.out.cell (World.block_lt_of_cell? w _ hx156_2)).trans hx156_2
                                                    replace p156 := eq_true p156
                                                    replace q156 := eq_true q156
                                                    go_wp2_with (first | (go_at_call 24; (with_reducible refine (darninglaw15_page.calls ((rd_T35 l0 (rd t150 x95_4)).f0) _ _ l2 t157 _ ?side1 ?side2 A50.out).mono ?_); (case side1 => repeat (first | exact (Kd.C_below HR2.out HB.out) | (with_reducible refine Kd.C_alloc ?_ _) | (with_reducible refine Kd.C_drewN ?_ _) | (with_reducible refine Kd.C_drew ?_))); (case side2 => exact HC2.out); rintro e w' ⟨rfl, ⟨nd, rfl⟩⟩; (try first | exact ⟨rfl, _, World.drewN_drewN _ _ _⟩ | exact ⟨rfl, _, Eq.trans (World.drewN_drewN _ _ _) (congrArg (World.drewN _) (Nat.add_assoc _ _ _))⟩); have p158 : 0 ≤ (t141 : Int) := of_decide_eq_true (by first | (with_reducible assumption) | assumption); have q158 : t141 < (l0.length : Int) := of_decide_eq_true (by first | (with_reducible assumption) | assumption); obtain ⟨ad158, e158, hx158_0, hx158_1, hx158_2⟩ := at_T35 HR0.out t141 p158 q158; obtain rfl : ad156 = ad158 := (by injection e158); replace hx158_0 := (HB.out.cell (World.block_lt_of_cell? w _ hx158_0)).trans hx158_0; replace hx158_1 := (HB.out.cell (World.block_lt_of_cell? w _ hx158_1)).trans hx158_1; replace hx158_2 := (HB.out.cell (World.block_lt_of_cell? w _ hx158_2)).trans hx158_2; replace p158 := eq_true p158; replace q158 := eq_true q158) | (go_at_call 24; (with_reducible refine (darninglaw15_page.calls ((rd_T35 l0 t141).f0) _ _ l2 t159 _ ?side1 ?side2 A53.out).mono ?_); (case side1 => repeat (first | exact (Kd.C_below HR2.out (by repeat (first | (with_reducible first | exact HB.out | apply below_alloc | apply pw_below_drewN | apply below_drew1) | exact HB.out))) | (with_reducible refine Kd.C_alloc ?_ _) | (with_reducible refine Kd.C_drewN ?_ _) | (with_reducible refine Kd.C_drew ?_))); (case side2 => exact HC2.out); rintro e w' ⟨rfl, ⟨nd, rfl⟩⟩; (try first | exact ⟨rfl, _, World.drewN_drewN _ _ _⟩ | exact ⟨rfl, _, Eq.trans (World.drewN_drewN _ _ _) (congrArg (World.drewN _) (Nat.add_assoc _ _ _))⟩)))
                                                    repeat (go_quiet (first | (go_at_call 24; (with_reducible refine (darninglaw15_page.calls ((rd_T35 l0 (rd t150 x95_4)).f0) _ _ l2 t157 _ ?side1 ?side2 A50.out).mono ?_); (case side1 => repeat (first | exact (Kd.C_below HR2.out HB.out) | (with_reducible refine Kd.C_alloc ?_ _) | (with_reducible refine Kd.C_drewN ?_ _) | (with_reducible refine Kd.C_drew ?_))); (case side2 => exact HC2.out); rintro e w' ⟨rfl, ⟨nd, rfl⟩⟩; (try first | exact ⟨rfl, _, World.drewN_drewN _ _ _⟩ | exact ⟨rfl, _, Eq.trans (World.drewN_drewN _ _ _) (congrArg (World.drewN _) (Nat.add_assoc _ _ _))⟩); have p158 : 0 ≤ (t141 : Int) := of_decide_eq_true (by first | (with_reducible assumption) | assumption); have q158 : t141 < (l0.length : Int) := of_decide_eq_true (by first | (with_reducible assumption) | assumption); obtain ⟨ad158, e158, hx158_0, hx158_1, hx158_2⟩ := at_T35 HR0.out t141 p158 q158; obtain rfl : ad156 = ad158 := (by injection e158); replace hx158_0 := (HB.out.cell (World.block_lt_of_cell? w _ hx158_0)).trans hx158_0; replace hx158_1 := (HB.out.cell (World.block_lt_of_cell? w _ hx158_1)).trans hx158_1; replace hx158_2 := (HB.out.cell (World.block_lt_of_cell? w _ hx158_2)).trans hx158_2; replace p158 := eq_true p158; replace q158 := eq_true q158) | (go_at_call 24; (with_reducible refine (darninglaw15_page.calls ((rd_T35 l0 t141).f0) _ _ l2 t159 _ ?side1 ?side2 A53.out).mono ?_); (case side1 => repeat (first | exact (Kd.C_below HR2.out (by repeat (first | (with_reducible first | exact HB.out | apply below_alloc | apply pw_below_drewN | apply below_drew1) | exact HB.out))) | (with_reducible refine Kd.C_alloc ?_ _) | (with_reducible refine Kd.C_drewN ?_ _) | (with_reducible refine Kd.C_drew ?_))); (case side2 => exact HC2.out); rintro e w' ⟨rfl, ⟨nd, rfl⟩⟩; (try first | exact ⟨rfl, _, World.drewN_drewN _ _ _⟩ | exact ⟨rfl, _, Eq.trans (World.drewN_drewN _ _ _) (congrArg (World.drewN _) (Nat.add_assoc _ _ _))⟩))); try go_wp2_with (first | (go_at_call 24; (with_reducible refine (darninglaw15_page.calls ((rd_T35 l0 (rd t150 x95_4)).f0) _ _ l2 t157 _ ?side1 ?side2 A50.out).mono ?_); (case side1 => repeat (first | exact (Kd.C_below HR2.out HB.out) | (with_reducible refine Kd.C_alloc ?_ _) | (with_reducible refine Kd.C_drewN ?_ _) | (with_reducible refine Kd.C_drew ?_))); (case side2 => exact HC2.out); rintro e w' ⟨rfl, ⟨nd, rfl⟩⟩; (try first | exact ⟨rfl, _, World.drewN_drewN _ _ _⟩ | exact ⟨rfl, _, Eq.trans (World.drewN_drewN _ _ _) (congrArg (World.drewN _) (Nat.add_assoc _ _ _))⟩); have p158 : 0 ≤ (t141 : Int) := of_decide_eq_true (by first | (with_reducible assumption) | assumption); have q158 : t141 < (l0.length : Int) := of_decide_eq_true (by first | (with_reducible assumption) | assumption); obtain ⟨ad158, e158, hx158_0, hx158_1, hx158_2⟩ := at_T35 HR0.out t141 p158 q158; obtain rfl : ad156 = ad158 := (by injection e158); replace hx158_0 := (HB.out.cell (World.block_lt_of_cell? w _ hx158_0)).trans hx158_0; replace hx158_1 := (HB.out.cell (World.block_lt_of_cell? w _ hx158_1)).trans hx158_1; replace hx158_2 := (HB.out.cell (World.block_lt_of_cell? w _ hx158_2)).trans hx158_2; replace p158 := eq_true p158; replace q158 := eq_true q158) | (go_at_call 24; (with_reducible refine (darninglaw15_page.calls ((rd_T35 l0 t141).f0) _ _ l2 t159 _ ?side1 ?side2 A53.out).mono ?_); (case side1 => repeat (first | exact (Kd.C_below HR2.out (by repeat (first | (with_reducible first | exact HB.out | apply below_alloc | apply pw_below_drewN | apply below_drew1) | exact HB.out))) | (with_reducible refine Kd.C_alloc ?_ _) | (with_reducible refine Kd.C_drewN ?_ _) | (with_reducible refine Kd.C_drew ?_))); (case side2 => exact HC2.out); rintro e w' ⟨rfl, ⟨nd, rfl⟩⟩; (try first | exact ⟨rfl, _, World.drewN_drewN _ _ _⟩ | exact ⟨rfl, _, Eq.trans (World.drewN_drewN _ _ _) (congrArg (World.drewN _) (Nat.add_assoc _ _ _))⟩))))
                                                    go_ret
                                                    exact ⟨by first | rfl | (simp [errW_none, errW_some] <;> rfl) | (simp [*, errW_none, errW_some] <;> rfl), by repeat (first | (with_reducible first | exact HB.out | apply below_alloc | apply pw_below_drewN | apply below_drew1) | exact HB.out)⟩
                                                  · rw [if_neg c54] at H
                                                    have c54b0 : decide (t157 < t159) = false := decide_eq_false c54
                                                    clear c54
                                                    have H' := Aside0.mk H
                                                    clear H
                                                    have p156 : 0 ≤ ((rd t150 x95_4) : Int) := of_decide_eq_true (by first | (with_reducible assumption) | assumption)
                                                    have q156 : (rd t150 x95_4) < (l0.length : Int) := of_decide_eq_true (by first | (with_reducible assumption) | assumption)
                                                    obtain ⟨ad156, e156, hx156_0, hx156_1, hx156_2⟩ := at_T35 HR0.out (rd t150 x95_4) p156 q156
                                                    cases e156
                                                    replace hx156_0 := (HB.out.cell (World.block_lt_of_cell? w _ hx156_0)).trans hx156_0
                                                    replace hx156_1 := (HB.out.cell (World.block_lt_of_cell? w _ hx156_1)).trans hx156_1
                                                    replace hx156_2 := (HB.out.cell (World.block_lt_of_cell? w _ hx156_2)).trans hx156_2
                                                    replace p156 := eq_true p156
                                                    replace q156 := eq_true q156
                                                    go_wp2_with (first | (go_at_call 24; (with_reducible refine (darninglaw15_page.calls ((rd_T35 l0 (rd t150 x95_4)).f0) _ _ l2 t157 _ ?side1 ?side2 A50.out).mono ?_); (case side1 => repeat (first | exact (Kd.C_below HR2.out HB.out) | (with_reducible refine Kd.C_alloc ?_ _) | (with_reducible refine Kd.C_drewN ?_ _) | (with_reducible refine Kd.C_drew ?_))); (case side2 => exact HC2.out); rintro e w' ⟨rfl, ⟨nd, rfl⟩⟩; (try first | exact ⟨rfl, _, World.drewN_drewN _ _ _⟩ | exact ⟨rfl, _, Eq.trans (World.drewN_drewN _ _ _) (congrArg (World.drewN _) (Nat.add_assoc _ _ _))⟩); have p158 : 0 ≤ (t141 : Int) := of_decide_eq_true (by first | (with_reducible assumption) | assumption); have q158 : t141 < (l0.length : Int) := of_decide_eq_true (by first | (with_reducible assumption) | assumption); obtain ⟨ad158, e158, hx158_0, hx158_1, hx158_2⟩ := at_T35 HR0.out t141 p158 q158; obtain rfl : ad156 = ad158 := (by injection e158); replace hx158_0 := (HB.out.cell (World.block_lt_of_cell? w _ hx158_0)).trans hx158_0; replace hx158_1 := (HB.out.cell (World.block_lt_of_cell? w _ hx158_1)).trans hx158_1; replace hx158_2 := (HB.out.cell (World.block_lt_of_cell? w _ hx158_2)).trans hx158_2; replace p158 := eq_true p158; replace q158 := eq_true q158) | (go_at_call 24; (with_reducible refine (darninglaw15_page.calls ((rd_T35 l0 t141).f0) _ _ l2 t159 _ ?side1 ?side2 A53.out).mono ?_); (case side1 => repeat (first | exact (Kd.C_below HR2.out (by repeat (first | (with_reducible first | exact HB.out | apply below_alloc | apply pw_below_drewN | apply below_drew1) | exact HB.out))) | (with_reducible refine Kd.C_alloc ?_ _) | (with_reducible refine Kd.C_drewN ?_ _) | (with_reducible refine Kd.C_drew ?_))); (case side2 => exact HC2.out); rintro e w' ⟨rfl, ⟨nd, rfl⟩⟩; (try first | exact ⟨rfl, _, World.drewN_drewN _ _ _⟩ | exact ⟨rfl, _, Eq.trans (World.drewN_drewN _ _ _) (congrArg (World.drewN _) (Nat.add_assoc _ _ _))⟩)))
                                                    repeat (go_quiet (first | (go_at_call 24; (with_reducible refine (darninglaw15_page.calls ((rd_T35 l0 (rd t150 x95_4)).f0) _ _ l2 t157 _ ?side1 ?side2 A50.out).mono ?_); (case side1 => repeat (first | exact (Kd.C_below HR2.out HB.out) | (with_reducible refine Kd.C_alloc ?_ _) | (with_reducible refine Kd.C_drewN ?_ _) | (with_reducible refine Kd.C_drew ?_))); (case side2 => exact HC2.out); rintro e w' ⟨rfl, ⟨nd, rfl⟩⟩; (try first | exact ⟨rfl, _, World.drewN_drewN _ _ _⟩ | exact ⟨rfl, _, Eq.trans (World.drewN_drewN _ _ _) (congrArg (World.drewN _) (Nat.add_assoc _ _ _))⟩); have p158 : 0 ≤ (t141 : Int) := of_decide_eq_true (by first | (with_reducible assumption) | assumption); have q158 : t141 < (l0.length : Int) := of_decide_eq_true (by first | (with_reducible assumption) | assumption); obtain ⟨ad158, e158, hx158_0, hx158_1, hx158_2⟩ := at_T35 HR0.out t141 p158 q158; obtain rfl : ad156 = ad158 := (by injection e158); replace hx158_0 := (HB.out.cell (World.block_lt_of_cell? w _ hx158_0)).trans hx158_0; replace hx158_1 := (HB.out.cell (World.block_lt_of_cell? w _ hx158_1)).trans hx158_1; replace hx158_2 := (HB.out.cell (World.block_lt_of_cell? w _ hx158_2)).trans hx158_2; replace p158 := eq_true p158; replace q158 := eq_true q158) | (go_at_call 24; (with_reducible refine (darninglaw15_page.calls ((rd_T35 l0 t141).f0) _ _ l2 t159 _ ?side1 ?side2 A53.out).mono ?_); (case side1 => repeat (first | exact (Kd.C_below HR2.out (by repeat (first | (with_reducible first | exact HB.out | apply below_alloc | apply pw_below_drewN | apply below_drew1) | exact HB.out))) | (with_reducible refine Kd.C_alloc ?_ _) | (with_reducible refine Kd.C_drewN ?_ _) | (with_reducible refine Kd.C_drew ?_))); (case side2 => exact HC2.out); rintro e w' ⟨rfl, ⟨nd, rfl⟩⟩; (try first | exact ⟨rfl, _, World.drewN_drewN _ _ _⟩ | exact ⟨rfl, _, Eq.trans (World.drewN_drewN _ _ _) (congrArg (World.drewN _) (Nat.add_assoc _ _ _))⟩))); try go_wp2_with (first | (go_at_call 24; (with_reducible refine (darninglaw15_page.calls ((rd_T35 l0 (rd t150 x95_4)).f0) _ _ l2 t157 _ ?side1 ?side2 A50.out).mono ?_); (case side1 => repeat (first | exact (Kd.C_below HR2.out HB.out) | (with_reducible refine Kd.C_alloc ?_ _) | (with_reducible refine Kd.C_drewN ?_ _) | (with_reducible refine Kd.C_drew ?_))); (case side2 => exact HC2.out); rintro e w' ⟨rfl, ⟨nd, rfl⟩⟩; (try first | exact ⟨rfl, _, World.drewN_drewN _ _ _⟩ | exact ⟨rfl, _, Eq.trans (World.drewN_drewN _ _ _) (congrArg (World.drewN _) (Nat.add_assoc _ _ _))⟩); have p158 : 0 ≤ (t141 : Int) := of_decide_eq_true (by first | (with_reducible assumption) | assumption); have q158 : t141 < (l0.length : Int) := of_decide_eq_true (by first | (with_reducible assumption) | assumption); obtain ⟨ad158, e158, hx158_0, hx158_1, hx158_2⟩ := at_T35 HR0.out t141 p158 q158; obtain rfl : ad156 = ad158 := (by injection e158); replace hx158_0 := (HB.out.cell (World.block_lt_of_cell? w _ hx158_0)).trans hx158_0; replace hx158_1 := (HB.out.cell (World.block_lt_of_cell? w _ hx158_1)).trans hx158_1; replace hx158_2 := (HB.out.cell (World.block_lt_of_cell? w _ hx158_2)).trans hx158_2; replace p158 := eq_true p158; replace q158 := eq_true q158) | (go_at_call 24; (with_reducible refine (darninglaw15_page.calls ((rd_T35 l0 t141).f0) _ _ l2 t159 _ ?side1 ?side2 A53.out).mono ?_); (case side1 => repeat (first | exact (Kd.C_below HR2.out (by repeat (first | (with_reducible first | exact HB.out | apply below_alloc | apply pw_below_drewN | apply below_drew1) | exact HB.out))) | (with_reducible refine Kd.C_alloc ?_ _) | (with_reducible refine Kd.C_drewN ?_ _) | (with_reducible refine Kd.C_drew ?_))); (case side2 => exact HC2.out); rintro e w' ⟨rfl, ⟨nd, rfl⟩⟩; (try first | exact ⟨rfl, _, World.drewN_drewN _ _ _⟩ | exact ⟨rfl, _, Eq.trans (World.drewN_drewN _ _ _) (congrArg (World.drewN _) (Nat.add_assoc _ _ _))⟩))))
                                                    go_roundg kj45
                                                    case measure => have := HJ3.out; have := HK2.out; have := HJ23.out; have := HK4.out; have := HJ37.out; have := HJ45.out; omega
                                                    case rel => exact ⟨(x11_45), (wrap64 (x95_4 + 1)), (by first | rfl | (simp; done) | (simp [*]; done)), (by first | rfl | (simp; done) | (simp [*]; done)), H', ⟨by have := HJ3.out; have := HK2.out; have := HJ23.out; have := HK4.out; have := HJ37.out; have := HJ45.out; omega⟩, ⟨by (with_reducible repeat (first | apply Kd.R_alloc | apply Kd.R_drewN | apply Kd.R_drew)); exact HO_93.out⟩, ⟨by repeat (first | (with_reducible first | exact HB.out | apply below_alloc | apply pw_below_drewN | apply below_drew1) | exact HB.out)⟩⟩
                                                · rw [if_neg c52] at H
                                                  exact absurd H (by simp)
                                              · rw [if_neg c51] at H
                                                exact absurd H (by simp)
                                            · rw [if_neg c49] at H
                                              exact absurd H (by simp)
                                          · rw [if_neg c48] at H
                                            exact absurd H (by simp)
                              · rw [if_neg c37] at H
                                exact absurd H (by simp)
                            · rw [if_neg c36] at H
                              exact absurd H (by simp)
                          · rw [if_neg c35] at H
                            have c35b0 : decide (x95_4 < (t150.length : Int)) = false := decide_eq_false c35
                            clear c35
                            have H' := Aside0.mk H
                            clear H
                            go_wp2
                            repeat (go_quiet (fail); try go_wp2)
                            go_loopg [144] k4 (fun kq v144 w' => ∃ (x144_5 : Int), v144 = .int .i64 x144_5 ∧ Aside0 (darninglaw15_FitBest.l2 kq l0 (wrap64 (2 + (wrap64 (Int.tmod (IntKind.u64.wrap (a1)) 60)))) t141 x11_4 l0 (l0.length : Int) x144_5 = some r) ∧ Aside0 (kq ≤ k4) ∧ Aside0 (Below w.heap.size w w'))
                            case atStart => exact ⟨(0), (by first | rfl | (simp; done) | (simp [*]; done)), H', ⟨Nat.le_refl _⟩, ⟨by repeat (first | (with_reducible first | exact HB.out | apply below_alloc | apply pw_below_drewN | apply below_drew1) | exact HB.out)⟩⟩
                            case round =>
                              clear H'
                              try clear c1
                              try clear p1
                              try clear q1
                              try clear hx1
                              try clear c2
                              try clear p2
                              try clear q2
                              try clear c3
                              try clear c4
                              try clear c5
                              try clear c5b0
                              try clear c5b1
                              try clear c6
                              try clear p6
                              try clear c11
                              try clear c11b0
                              try clear c12
                              try clear c12b0
                              try clear c13
                              try clear c13b0
                              try clear c14
                              try clear p14
                              try clear q14
                              try clear hx14
                              try clear p15
                              try clear q15
                              try clear hx15
                              try clear q17
                              try clear c18
                              try clear c23
                              try clear c25
                              try clear c25b0
                              try clear c26
                              try clear c26b0
                              try clear c27
                              try clear c27b0
                              try clear c28
                              try clear c28b0
                              try clear q29
                              try clear c30
                              try clear c31
                              try clear c35
                              try clear c35b0
                              try clear c36
                              try clear c36b0
                              try clear c37
                              try clear c37b0
                              try clear c39
                              try clear c39b0
                              try clear c40
                              try clear c40b0
                              try clear c41
                              try clear c41b0
                              try clear c42
                              try clear c42b0
                              try clear c43
                              try clear c43b0
                              try clear c44
                              try clear c44b0
                              try clear c45
                              try clear c47
                              try clear c48
                              try clear c48b0
                              try clear c49
                              try clear c49b0
                              try clear c51
                              try clear c51b0
                              try clear c52
                              try clear c52b0
                              try clear c54
                              try clear c54b0
                              try clear hcz16_0
                              try clear hcz16_1
                              try clear hcz16_2
                              try clear hcz20_0
                              try clear hcz20_1
                              try clear hcz20_2
                              try clear hcz22_0
                              try clear hcz22_1
                              try clear hcz22_2
                              try clear hfz16_0
                              try clear hfz16_1
                              try clear hfz16_2
                              try clear hfz20_0
                              try clear hfz20_1
                              try clear hfz20_2
                              try clear hfz22_0
                              try clear hfz22_1
                              try clear hfz22_2
                              try clear hx142_0
                              try clear hx142_1
                              try clear hx142_2
                              try clear hx148_0
                              try clear hx148_1
                              try clear hx148_2
                              try clear hx149_0
                              try clear hx149_1
                              try clear hx149_2
                              try clear hx153_0
                              try clear hx154_0
                              try clear hx154_1
                              try clear hx154_2
                              try clear hx155_0
                              try clear hx155_1
                              try clear hx155_2
                              try clear hx156_0
                              try clear hx156_1
                              try clear hx156_2
                              try clear hx158_0
                              try clear hx158_1
                              try clear hx158_2
                              try clear p1
                              try clear p14
                              try clear p142
                              try clear p148
                              try clear p149
                              try clear p15
                              try clear p153
                              try clear p154
                              try clear p155
                              try clear p156
                              try clear p158
                              try clear p2
                              try clear p6
                              try clear q1
                              try clear q14
                              try clear q142
                              try clear q148
                              try clear q149
                              try clear q15
                              try clear q153
                              try clear q154
                              try clear q155
                              try clear q156
                              try clear q158
                              try clear q17
                              try clear q2
                              try clear q29
                              obtain ⟨x144_5, rfl, HA, HK5, HB⟩ := hrel
                              cases gk with
                              | zero => exact absurd HA.out (by simp [darninglaw15_FitBest.l2])
                              | succ k5 =>
                                have H := HA.out
                                clear HA
                                simp only [darninglaw15_FitBest.l2] at H
                                by_cases c55 : x144_5 < (l0.length : Int)
                                · rw [if_pos c55] at H
                                  have c55b0 : decide (x144_5 < (l0.length : Int)) = true := decide_eq_true c55
                                  clear c55
                                  by_cases c56 : 0 ≤ x144_5
                                  · rw [if_pos c56] at H
                                    have c56b0 : decide (0 ≤ x144_5) = true := decide_eq_true c56
                                    clear c56
                                    by_cases c57 : x144_5 < (l0.length : Int)
                                    · rw [if_pos c57] at H
                                      have c57b0 : decide (x144_5 < (l0.length : Int)) = true := decide_eq_true c57
                                      clear c57
                                      obtain ⟨bq58, hbq58⟩ : ∃ b_ : Bool, b_ = ((rd_T35 l0 x144_5).f2) := ⟨_, rfl⟩
                                      replace H : (if (bq58 = true) then (darninglaw15_FitBest.l2 k5 l0 (wrap64 (2 + (wrap64 (Int.tmod (IntKind.u64.wrap (a1)) 60)))) t141 x11_4 l0 (l0.length : Int) (wrap64 (x144_5 + 1))) else (if ((rd_T35 l0 x144_5).f1) ≥ (wrap64 (2 + (wrap64 (Int.tmod (IntKind.u64.wrap (a1)) 60)))) then (if 0 ≤ t141 then (if t141 < (l0.length : Int) then (if ((rd_T35 l0 x144_5).f1) < ((rd_T35 l0 t141).f1) then (some false) else (darninglaw15_FitBest.l2 k5 l0 (wrap64 (2 + (wrap64 (Int.tmod (IntKind.u64.wrap (a1)) 60)))) t141 x11_4 l0 (l0.length : Int) (wrap64 (x144_5 + 1)))) else (none)) else (none)) else (darninglaw15_FitBest.l2 k5 l0 (wrap64 (2 + (wrap64 (Int.tmod (IntKind.u64.wrap (a1)) 60)))) t141 x11_4 l0 (l0.length : Int) (wrap64 (x144_5 + 1))))) = some r := by rw [← hbq58] at H; exact H
                                      have Nbq58 := Aside0.mk hbq58
                                      clear hbq58
                                      (try rw [← Nbq58.out])
                                      by_cases c59 : (bq58 = true)
                                      · subst c59
                                        have H1 : (darninglaw15_FitBest.l2 k5 l0 (wrap64 (2 + (wrap64 (Int.tmod (IntKind.u64.wrap (a1)) 60)))) t141 x11_4 l0 (l0.length : Int) (wrap64 (x144_5 + 1))) = some r := by rw [if_pos rfl] at H; exact H
                                        clear H
                                        have H := H1
                                        clear H1
                                        have H' := Aside0.mk H
                                        clear H
                                        have p160 : 0 ≤ (x144_5 : Int) := of_decide_eq_true (by first | (with_reducible assumption) | assumption)
                                        have q160 : x144_5 < (l0.length : Int) := of_decide_eq_true (by first | (with_reducible assumption) | assumption)
                                        obtain ⟨ad160, e160, hx160_0, hx160_1, hx160_2⟩ := at_T35 HR0.out x144_5 p160 q160
                                        (try rw [← Nbq58.out] at hx160_2)
                                        cases e160
                                        replace hx160_0 := (HB.out.cell (World.block_lt_of_cell? w _ hx160_0)).trans hx160_0
                                        replace hx160_1 := (HB.out.cell (World.block_lt_of_cell? w _ hx160_1)).trans hx160_1
                                        replace hx160_2 := (HB.out.cell (World.block_lt_of_cell? w _ hx160_2)).trans hx160_2
                                        replace p160 := eq_true p160
                                        replace q160 := eq_true q160
                                        go_wp2_with (first | ((with_reducible refine gate_dst (N := 15) rfl ?_); (try (refine gate_guard (by rfl) ?_; dsimp only)); refine box_event ?hg (N := 15) ?hd (cs := #[.int .i64 0, .int .i64 0, .bool false]) (t := 35) ?hr ?_; (case hd => rfl); (case hg => rfl); (case hr => first | (go_simp; done) | (go_simp; rfl)); intro gb161 hg w60 hbox hb; have n0_ := Aside0.mk (below_step (by repeat (first | (with_reducible first | exact HB.out | apply below_alloc | apply pw_below_drewN | apply below_drew1) | exact HB.out)) hb); have n1_ := Aside0.mk (hbox); have n2_ := Aside0.mk ((by rw [hg]; exact (below_size (by repeat (first | (with_reducible first | exact HB.out | apply below_alloc | apply pw_below_drewN | apply below_drew1) | exact HB.out))) : w.heap.size ≤ gb161)); have n3_ := Aside0.mk ((by rw [hg]; exact (below_size (by repeat (first | (with_reducible first | exact HB.out | apply below_alloc | apply pw_below_drewN | apply below_drew1) | exact HB.out))) : w.heap.size ≤ gb161)); clear HB; have HB := n0_; have BK161 := n1_; have GW161 := n2_; have GE161 := n3_; clear n0_ n1_ n2_ n3_; clear hb hbox hg; have hcz61_0 : w60.cell? ⟨gb161, 0, none⟩ = some (.int .i64 0) := (blk_cell BK161.out 0).trans rfl; have hcz61_1 : w60.cell? ⟨gb161, 1, none⟩ = some (.int .i64 0) := (blk_cell BK161.out 1).trans rfl; have hcz61_2 : w60.cell? ⟨gb161, 2, none⟩ = some (.bool false) := (blk_cell BK161.out 2).trans rfl; have hfz61_0 := blk_frozen BK161.out 0; have hfz61_1 := blk_frozen BK161.out 1; have hfz61_2 := blk_frozen BK161.out 2))
                                        repeat (go_quiet (first | ((with_reducible refine gate_dst (N := 15) rfl ?_); (try (refine gate_guard (by rfl) ?_; dsimp only)); refine box_event ?hg (N := 15) ?hd (cs := #[.int .i64 0, .int .i64 0, .bool false]) (t := 35) ?hr ?_; (case hd => rfl); (case hg => rfl); (case hr => first | (go_simp; done) | (go_simp; rfl)); intro gb161 hg w60 hbox hb; have n0_ := Aside0.mk (below_step (by repeat (first | (with_reducible first | exact HB.out | apply below_alloc | apply pw_below_drewN | apply below_drew1) | exact HB.out)) hb); have n1_ := Aside0.mk (hbox); have n2_ := Aside0.mk ((by rw [hg]; exact (below_size (by repeat (first | (with_reducible first | exact HB.out | apply below_alloc | apply pw_below_drewN | apply below_drew1) | exact HB.out))) : w.heap.size ≤ gb161)); have n3_ := Aside0.mk ((by rw [hg]; exact (below_size (by repeat (first | (with_reducible first | exact HB.out | apply below_alloc | apply pw_below_drewN | apply below_drew1) | exact HB.out))) : w.heap.size ≤ gb161)); clear HB; have HB := n0_; have BK161 := n1_; have GW161 := n2_; have GE161 := n3_; clear n0_ n1_ n2_ n3_; clear hb hbox hg; have hcz61_0 : w60.cell? ⟨gb161, 0, none⟩ = some (.int .i64 0) := (blk_cell BK161.out 0).trans rfl; have hcz61_1 : w60.cell? ⟨gb161, 1, none⟩ = some (.int .i64 0) := (blk_cell BK161.out 1).trans rfl; have hcz61_2 : w60.cell? ⟨gb161, 2, none⟩ = some (.bool false) := (blk_cell BK161.out 2).trans rfl; have hfz61_0 := blk_frozen BK161.out 0; have hfz61_1 := blk_frozen BK161.out 1; have hfz61_2 := blk_frozen BK161.out 2)); try go_wp2_with (first | ((with_reducible refine gate_dst (N := 15) rfl ?_); (try (refine gate_guard (by rfl) ?_; dsimp only)); refine box_event ?hg (N := 15) ?hd (cs := #[.int .i64 0, .int .i64 0, .bool false]) (t := 35) ?hr ?_; (case hd => rfl); (case hg => rfl); (case hr => first | (go_simp; done) | (go_simp; rfl)); intro gb161 hg w60 hbox hb; have n0_ := Aside0.mk (below_step (by repeat (first | (with_reducible first | exact HB.out | apply below_alloc | apply pw_below_drewN | apply below_drew1) | exact HB.out)) hb); have n1_ := Aside0.mk (hbox); have n2_ := Aside0.mk ((by rw [hg]; exact (below_size (by repeat (first | (with_reducible first | exact HB.out | apply below_alloc | apply pw_below_drewN | apply below_drew1) | exact HB.out))) : w.heap.size ≤ gb161)); have n3_ := Aside0.mk ((by rw [hg]; exact (below_size (by repeat (first | (with_reducible first | exact HB.out | apply below_alloc | apply pw_below_drewN | apply below_drew1) | exact HB.out))) : w.heap.size ≤ gb161)); clear HB; have HB := n0_; have BK161 := n1_; have GW161 := n2_; have GE161 := n3_; clear n0_ n1_ n2_ n3_; clear hb hbox hg; have hcz61_0 : w60.cell? ⟨gb161, 0, none⟩ = some (.int .i64 0) := (blk_cell BK161.out 0).trans rfl; have hcz61_1 : w60.cell? ⟨gb161, 1, none⟩ = some (.int .i64 0) := (blk_cell BK161.out 1).trans rfl; have hcz61_2 : w60.cell? ⟨gb161, 2, none⟩ = some (.bool false) := (blk_cell BK161.out 2).trans rfl; have hfz61_0 := blk_frozen BK161.out 0; have hfz61_1 := blk_frozen BK161.out 1; have hfz61_2 := blk_frozen BK161.out 2)))
                                        go_roundg k5
                                        case measure => have := HJ3.out; have := HK2.out; have := HJ23.out; have := HK4.out; have := HK5.out; omega
                                        case rel => exact ⟨(wrap64 (x144_5 + 1)), (by first | rfl | (simp; done) | (simp [*]; done)), H', ⟨by have := HJ3.out; have := HK2.out; have := HJ23.out; have := HK4.out; have := HK5.out; omega⟩, ⟨by repeat (first | (with_reducible first | exact HB.out | apply below_alloc | apply pw_below_drewN | apply below_drew1 | refine below_set ?_ GE161.out) | exact HB.out)⟩⟩
                                      · replace c59 := Bool.eq_false_iff.mpr c59
                                        subst c59
                                        have H1 : (if ((rd_T35 l0 x144_5).f1) ≥ (wrap64 (2 + (wrap64 (Int.tmod (IntKind.u64.wrap (a1)) 60)))) then (if 0 ≤ t141 then (if t141 < (l0.length : Int) then (if ((rd_T35 l0 x144_5).f1) < ((rd_T35 l0 t141).f1) then (some false) else (darninglaw15_FitBest.l2 k5 l0 (wrap64 (2 + (wrap64 (Int.tmod (IntKind.u64.wrap (a1)) 60)))) t141 x11_4 l0 (l0.length : Int) (wrap64 (x144_5 + 1)))) else (none)) else (none)) else (darninglaw15_FitBest.l2 k5 l0 (wrap64 (2 + (wrap64 (Int.tmod (IntKind.u64.wrap (a1)) 60)))) t141 x11_4 l0 (l0.length : Int) (wrap64 (x144_5 + 1)))) = some r := by rw [if_neg (show ¬ (false = true) by decide)] at H; exact H
                                        clear H
                                        have H := H1
                                        clear H1
                                        by_cases c62 : ((rd_T35 l0 x144_5).f1) ≥ (wrap64 (2 + (wrap64 (Int.tmod (IntKind.u64.wrap (a1)) 60))))
                                        · rw [if_pos c62] at H
                                          have c62b0 : decide ((wrap64 (2 + (wrap64 (Int.tmod (IntKind.u64.wrap (a1)) 60)))) ≤ ((rd_T35 l0 x144_5).f1)) = true := decide_eq_true c62
                                          clear c62
                                          by_cases c63 : 0 ≤ t141
                                          · rw [if_pos c63] at H
                                            have c63b0 : decide (0 ≤ t141) = true := decide_eq_true c63
                                            clear c63
                                            by_cases c64 : t141 < (l0.length : Int)
                                            · rw [if_pos c64] at H
                                              have c64b0 : decide (t141 < (l0.length : Int)) = true := decide_eq_true c64
                                              clear c64
                                              by_cases c65 : ((rd_T35 l0 x144_5).f1) < ((rd_T35 l0 t141).f1)
                                              · rw [if_pos c65] at H
                                                have c65b0 : decide (((rd_T35 l0 x144_5).f1) < ((rd_T35 l0 t141).f1)) = true := decide_eq_true c65
                                                clear c65
                                                obtain rfl := Option.some.inj H
                                                have p160 : 0 ≤ (x144_5 : Int) := of_decide_eq_true (by first | (with_reducible assumption) | assumption)
                                                have q160 : x144_5 < (l0.length : Int) := of_decide_eq_true (by first | (with_reducible assumption) | assumption)
                                                obtain ⟨ad160, e160, hx160_0, hx160_1, hx160_2⟩ := at_T35 HR0.out x144_5 p160 q160
                                                (try rw [← Nbq58.out] at hx160_2)
                                                cases e160
                                                replace hx160_0 := (HB.out.cell (World.block_lt_of_cell? w _ hx160_0)).trans hx160_0
                                                replace hx160_1 := (HB.out.cell (World.block_lt_of_cell? w _ hx160_1)).trans hx160_1
                                                replace hx160_2 := (HB.out.cell (World.block_lt_of_cell? w _ hx160_2)).trans hx160_2
                                                replace p160 := eq_true p160
                                                replace q160 := eq_true q160
                                                go_wp2_with (first | ((with_reducible refine gate_dst (N := 15) rfl ?_); (try (refine gate_guard (by rfl) ?_; dsimp only)); refine box_event ?hg (N := 15) ?hd (cs := #[.int .i64 0, .int .i64 0, .bool false]) (t := 35) ?hr ?_; (case hd => rfl); (case hg => rfl); (case hr => first | (go_simp; done) | (go_simp; rfl)); intro gb161 hg w66 hbox hb; have n0_ := Aside0.mk (below_step (by repeat (first | (with_reducible first | exact HB.out | apply below_alloc | apply pw_below_drewN | apply below_drew1) | exact HB.out)) hb); have n1_ := Aside0.mk (hbox); have n2_ := Aside0.mk ((by rw [hg]; exact (below_size (by repeat (first | (with_reducible first | exact HB.out | apply below_alloc | apply pw_below_drewN | apply below_drew1) | exact HB.out))) : w.heap.size ≤ gb161)); have n3_ := Aside0.mk ((by rw [hg]; exact (below_size (by repeat (first | (with_reducible first | exact HB.out | apply below_alloc | apply pw_below_drewN | apply below_drew1) | exact HB.out))) : w.heap.size ≤ gb161)); clear HB; have HB := n0_; have BK161 := n1_; have GW161 := n2_; have GE161 := n3_; clear n0_ n1_ n2_ n3_; clear hb hbox hg; have hcz67_0 : w66.cell? ⟨gb161, 0, none⟩ = some (.int .i64 0) := (blk_cell BK161.out 0).trans rfl; have hcz67_1 : w66.cell? ⟨gb161, 1, none⟩ = some (.int .i64 0) := (blk_cell BK161.out 1).trans rfl; have hcz67_2 : w66.cell? ⟨gb161, 2, none⟩ = some (.bool false) := (blk_cell BK161.out 2).trans rfl; have hfz67_0 := blk_frozen BK161.out 0; have hfz67_1 := blk_frozen BK161.out 1; have hfz67_2 := blk_frozen BK161.out 2; have p162 : 0 ≤ (t141 : Int) := of_decide_eq_true (by first | (with_reducible assumption) | assumption); have q162 : t141 < (l0.length : Int) := of_decide_eq_true (by first | (with_reducible assumption) | assumption); obtain ⟨ad162, e162, hx162_0, hx162_1, hx162_2⟩ := at_T35 HR0.out t141 p162 q162; (try rw [← Nbq58.out] at hx162_2); obtain rfl : ad160 = ad162 := (by injection e162); have hn162_0 : ad160.block ≠ gb161 := Nat.ne_of_lt (Nat.lt_of_lt_of_le (by have := World.block_lt_of_cell? _ _ hx162_0; first | rwa [add_block] at this | exact this) GW161.out); have hn162_1 : ad160.block ≠ gb161 := Nat.ne_of_lt (Nat.lt_of_lt_of_le (by have := World.block_lt_of_cell? _ _ hx162_0; first | rwa [add_block] at this | exact this) GW161.out); have hn162_2 : ad160.block ≠ gb161 := Nat.ne_of_lt (Nat.lt_of_lt_of_le (by have := World.block_lt_of_cell? _ _ hx162_0; first | rwa [add_block] at this | exact this) GW161.out); replace hx162_0 := (HB.out.cell (World.block_lt_of_cell? w _ hx162_0)).trans hx162_0; replace hx162_1 := (HB.out.cell (World.block_lt_of_cell? w _ hx162_1)).trans hx162_1; replace hx162_2 := (HB.out.cell (World.block_lt_of_cell? w _ hx162_2)).trans hx162_2; replace hx162_0 := (cell_far (p := ⟨gb161, 0, none⟩) (by first | (rw [add_block]; exact hn162_0) | (show (Addr.add _ _).block ≠ _; rw [add_block]; exact hn162_0) | exact hn162_0) (.int .i64 ((rd_T35 l0 x144_5).f0))).trans hx162_0; replace hx162_1 := (cell_far (p := ⟨gb161, 0, none⟩) (by first | (rw [add_block]; exact hn162_0) | (show (Addr.add _ _).block ≠ _; rw [add_block]; exact hn162_0) | exact hn162_0) (.int .i64 ((rd_T35 l0 x144_5).f0))).trans hx162_1; replace hx162_2 := (cell_far (p := ⟨gb161, 0, none⟩) (by first | (rw [add_block]; exact hn162_0) | (show (Addr.add _ _).block ≠ _; rw [add_block]; exact hn162_0) | exact hn162_0) (.int .i64 ((rd_T35 l0 x144_5).f0))).trans hx162_2; replace hx162_0 := (cell_far (p := ⟨gb161, 1, none⟩) (by first | (rw [add_block]; exact hn162_1) | (show (Addr.add _ _).block ≠ _; rw [add_block]; exact hn162_1) | exact hn162_1) (.int .i64 ((rd_T35 l0 x144_5).f1))).trans hx162_0; replace hx162_1 := (cell_far (p := ⟨gb161, 1, none⟩) (by first | (rw [add_block]; exact hn162_1) | (show (Addr.add _ _).block ≠ _; rw [add_block]; exact hn162_1) | exact hn162_1) (.int .i64 ((rd_T35 l0 x144_5).f1))).trans hx162_1; replace hx162_2 := (cell_far (p := ⟨gb161, 1, none⟩) (by first | (rw [add_block]; exact hn162_1) | (show (Addr.add _ _).block ≠ _; rw [add_block]; exact hn162_1) | exact hn162_1) (.int .i64 ((rd_T35 l0 x144_5).f1))).trans hx162_2; replace hx162_0 := (cell_far (p := ⟨gb161, 2, none⟩) (by first | (rw [add_block]; exact hn162_2) | (show (Addr.add _ _).block ≠ _; rw [add_block]; exact hn162_2) | exact hn162_2) (.bool false)).trans hx162_0; replace hx162_1 := (cell_far (p := ⟨gb161, 2, none⟩) (by first | (rw [add_block]; exact hn162_2) | (show (Addr.add _ _).block ≠ _; rw [add_block]; exact hn162_2) | exact hn162_2) (.bool false)).trans hx162_1; replace hx162_2 := (cell_far (p := ⟨gb161, 2, none⟩) (by first | (rw [add_block]; exact hn162_2) | (show (Addr.add _ _).block ≠ _; rw [add_block]; exact hn162_2) | exact hn162_2) (.bool false)).trans hx162_2; (try have hy162_0 := fun (n_ : Nat) => (show (((((w66.drewN n_).setCell ⟨gb161, 0, none⟩ (.int .i64 ((rd_T35 l0 x144_5).f0))).setCell ⟨gb161, 1, none⟩ (.int .i64 ((rd_T35 l0 x144_5).f1))).setCell ⟨gb161, 2, none⟩ (.bool false))).cell? _ = some _ from hx162_0)); (try have hy162_1 := fun (n_ : Nat) => (show (((((w66.drewN n_).setCell ⟨gb161, 0, none⟩ (.int .i64 ((rd_T35 l0 x144_5).f0))).setCell ⟨gb161, 1, none⟩ (.int .i64 ((rd_T35 l0 x144_5).f1))).setCell ⟨gb161, 2, none⟩ (.bool false))).cell? _ = some _ from hx162_1)); (try have hy162_2 := fun (n_ : Nat) => (show (((((w66.drewN n_).setCell ⟨gb161, 0, none⟩ (.int .i64 ((rd_T35 l0 x144_5).f0))).setCell ⟨gb161, 1, none⟩ (.int .i64 ((rd_T35 l0 x144_5).f1))).setCell ⟨gb161, 2, none⟩ (.bool false))).cell? _ = some _ from hx162_2)); clear hn162_0; clear hn162_1; clear hn162_2; replace p162 := eq_true p162; replace q162 := eq_true q162))
                                                repeat (go_quiet (first | ((with_reducible refine gate_dst (N := 15) rfl ?_); (try (refine gate_guard (by rfl) ?_; dsimp only)); refine box_event ?hg (N := 15) ?hd (cs := #[.int .i64 0, .int .i64 0, .bool false]) (t := 35) ?hr ?_; (case hd => rfl); (case hg => rfl); (case hr => first | (go_simp; done) | (go_simp; rfl)); intro gb161 hg w66 hbox hb; have n0_ := Aside0.mk (below_step (by repeat (first | (with_reducible first | exact HB.out | apply below_alloc | apply pw_below_drewN | apply below_drew1) | exact HB.out)) hb); have n1_ := Aside0.mk (hbox); have n2_ := Aside0.mk ((by rw [hg]; exact (below_size (by repeat (first | (with_reducible first | exact HB.out | apply below_alloc | apply pw_below_drewN | apply below_drew1) | exact HB.out))) : w.heap.size ≤ gb161)); have n3_ := Aside0.mk ((by rw [hg]; exact (below_size (by repeat (first | (with_reducible first | exact HB.out | apply below_alloc | apply pw_below_drewN | apply below_drew1) | exact HB.out))) : w.heap.size ≤ gb161)); clear HB; have HB := n0_; have BK161 := n1_; have GW161 := n2_; have GE161 := n3_; clear n0_ n1_ n2_ n3_; clear hb hbox hg; have hcz67_0 : w66.cell? ⟨gb161, 0, none⟩ = some (.int .i64 0) := (blk_cell BK161.out 0).trans rfl; have hcz67_1 : w66.cell? ⟨gb161, 1, none⟩ = some (.int .i64 0) := (blk_cell BK161.out 1).trans rfl; have hcz67_2 : w66.cell? ⟨gb161, 2, none⟩ = some (.bool false) := (blk_cell BK161.out 2).trans rfl; have hfz67_0 := blk_frozen BK161.out 0; have hfz67_1 := blk_frozen BK161.out 1; have hfz67_2 := blk_frozen BK161.out 2; have p162 : 0 ≤ (t141 : Int) := of_decide_eq_true (by first | (with_reducible assumption) | assumption); have q162 : t141 < (l0.length : Int) := of_decide_eq_true (by first | (with_reducible assumption) | assumption); obtain ⟨ad162, e162, hx162_0, hx162_1, hx162_2⟩ := at_T35 HR0.out t141 p162 q162; (try rw [← Nbq58.out] at hx162_2); obtain rfl : ad160 = ad162 := (by injection e162); have hn162_0 : ad160.block ≠ gb161 := Nat.ne_of_lt (Nat.lt_of_lt_of_le (by have := World.block_lt_of_cell? _ _ hx162_0; first | rwa [add_block] at this | exact this) GW161.out); have hn162_1 : ad160.block ≠ gb161 := Nat.ne_of_lt (Nat.lt_of_lt_of_le (by have := World.block_lt_of_cell? _ _ hx162_0; first | rwa [add_block] at this | exact this) GW161.out); have hn162_2 : ad160.block ≠ gb161 := Nat.ne_of_lt (Nat.lt_of_lt_of_le (by have := World.block_lt_of_cell? _ _ hx162_0; first | rwa [add_block] at this | exact this) GW161.out); replace hx162_0 := (HB.out.cell (World.block_lt_of_cell? w _ hx162_0)).trans hx162_0; replace hx162_1 := (HB.out.cell (World.block_lt_of_cell? w _ hx162_1)).trans hx162_1; replace hx162_2 := (HB.out.cell (World.block_lt_of_cell? w _ hx162_2)).trans hx162_2; replace hx162_0 := (cell_far (p := ⟨gb161, 0, none⟩) (by first | (rw [add_block]; exact hn162_0) | (show (Addr.add _ _).block ≠ _; rw [add_block]; exact hn162_0) | exact hn162_0) (.int .i64 ((rd_T35 l0 x144_5).f0))).trans hx162_0; replace hx162_1 := (cell_far (p := ⟨gb161, 0, none⟩) (by first | (rw [add_block]; exact hn162_0) | (show (Addr.add _ _).block ≠ _; rw [add_block]; exact hn162_0) | exact hn162_0) (.int .i64 ((rd_T35 l0 x144_5).f0))).trans hx162_1; replace hx162_2 := (cell_far (p := ⟨gb161, 0, none⟩) (by first | (rw [add_block]; exact hn162_0) | (show (Addr.add _ _).block ≠ _; rw [add_block]; exact hn162_0) | exact hn162_0) (.int .i64 ((rd_T35 l0 x144_5).f0))).trans hx162_2; replace hx162_0 := (cell_far (p := ⟨gb161, 1, none⟩) (by first | (rw [add_block]; exact hn162_1) | (show (Addr.add _ _).block ≠ _; rw [add_block]; exact hn162_1) | exact hn162_1) (.int .i64 ((rd_T35 l0 x144_5).f1))).trans hx162_0; replace hx162_1 := (cell_far (p := ⟨gb161, 1, none⟩) (by first | (rw [add_block]; exact hn162_1) | (show (Addr.add _ _).block ≠ _; rw [add_block]; exact hn162_1) | exact hn162_1) (.int .i64 ((rd_T35 l0 x144_5).f1))).trans hx162_1; replace hx162_2 := (cell_far (p := ⟨gb161, 1, none⟩) (by first | (rw [add_block]; exact hn162_1) | (show (Addr.add _ _).block ≠ _; rw [add_block]; exact hn162_1) | exact hn162_1) (.int .i64 ((rd_T35 l0 x144_5).f1))).trans hx162_2; replace hx162_0 := (cell_far (p := ⟨gb161, 2, none⟩) (by first | (rw [add_block]; exact hn162_2) | (show (Addr.add _ _).block ≠ _; rw [add_block]; exact hn162_2) | exact hn162_2) (.bool false)).trans hx162_0; replace hx162_1 := (cell_far (p := ⟨gb161, 2, none⟩) (by first | (rw [add_block]; exact hn162_2) | (show (Addr.add _ _).block ≠ _; rw [add_block]; exact hn162_2) | exact hn162_2) (.bool false)).trans hx162_1; replace hx162_2 := (cell_far (p := ⟨gb161, 2, none⟩) (by first | (rw [add_block]; exact hn162_2) | (show (Addr.add _ _).block ≠ _; rw [add_block]; exact hn162_2) | exact hn162_2) (.bool false)).trans hx162_2; (try have hy162_0 := fun (n_ : Nat) => (show (((((w66.drewN n_).setCell ⟨gb161, 0, none⟩ (.int .i64 ((rd_T35 l0 x144_5).f0))).setCell ⟨gb161, 1, none⟩ (.int .i64 ((rd_T35 l0 x144_5).f1))).setCell ⟨gb161, 2, none⟩ (.bool false))).cell? _ = some _ from hx162_0)); (try have hy162_1 := fun (n_ : Nat) => (show (((((w66.drewN n_).setCell ⟨gb161, 0, none⟩ (.int .i64 ((rd_T35 l0 x144_5).f0))).setCell ⟨gb161, 1, none⟩ (.int .i64 ((rd_T35 l0 x144_5).f1))).setCell ⟨gb161, 2, none⟩ (.bool false))).cell? _ = some _ from hx162_1)); (try have hy162_2 := fun (n_ : Nat) => (show (((((w66.drewN n_).setCell ⟨gb161, 0, none⟩ (.int .i64 ((rd_T35 l0 x144_5).f0))).setCell ⟨gb161, 1, none⟩ (.int .i64 ((rd_T35 l0 x144_5).f1))).setCell ⟨gb161, 2, none⟩ (.bool false))).cell? _ = some _ from hx162_2)); clear hn162_0; clear hn162_1; clear hn162_2; replace p162 := eq_true p162; replace q162 := eq_true q162)); try go_wp2_with (first | ((with_reducible refine gate_dst (N := 15) rfl ?_); (try (refine gate_guard (by rfl) ?_; dsimp only)); refine box_event ?hg (N := 15) ?hd (cs := #[.int .i64 0, .int .i64 0, .bool false]) (t := 35) ?hr ?_; (case hd => rfl); (case hg => rfl); (case hr => first | (go_simp; done) | (go_simp; rfl)); intro gb161 hg w66 hbox hb; have n0_ := Aside0.mk (below_step (by repeat (first | (with_reducible first | exact HB.out | apply below_alloc | apply pw_below_drewN | apply below_drew1) | exact HB.out)) hb); have n1_ := Aside0.mk (hbox); have n2_ := Aside0.mk ((by rw [hg]; exact (below_size (by repeat (first | (with_reducible first | exact HB.out | apply below_alloc | apply pw_below_drewN | apply below_drew1) | exact HB.out))) : w.heap.size ≤ gb161)); have n3_ := Aside0.mk ((by rw [hg]; exact (below_size (by repeat (first | (with_reducible first | exact HB.out | apply below_alloc | apply pw_below_drewN | apply below_drew1) | exact HB.out))) : w.heap.size ≤ gb161)); clear HB; have HB := n0_; have BK161 := n1_; have GW161 := n2_; have GE161 := n3_; clear n0_ n1_ n2_ n3_; clear hb hbox hg; have hcz67_0 : w66.cell? ⟨gb161, 0, none⟩ = some (.int .i64 0) := (blk_cell BK161.out 0).trans rfl; have hcz67_1 : w66.cell? ⟨gb161, 1, none⟩ = some (.int .i64 0) := (blk_cell BK161.out 1).trans rfl; have hcz67_2 : w66.cell? ⟨gb161, 2, none⟩ = some (.bool false) := (blk_cell BK161.out 2).trans rfl; have hfz67_0 := blk_frozen BK161.out 0; have hfz67_1 := blk_frozen BK161.out 1; have hfz67_2 := blk_frozen BK161.out 2; have p162 : 0 ≤ (t141 : Int) := of_decide_eq_true (by first | (with_reducible assumption) | assumption); have q162 : t141 < (l0.length : Int) := of_decide_eq_true (by first | (with_reducible assumption) | assumption); obtain ⟨ad162, e162, hx162_0, hx162_1, hx162_2⟩ := at_T35 HR0.out t141 p162 q162; (try rw [← Nbq58.out] at hx162_2); obtain rfl : ad160 = ad162 := (by injection e162); have hn162_0 : ad160.block ≠ gb161 := Nat.ne_of_lt (Nat.lt_of_lt_of_le (by have := World.block_lt_of_cell? _ _ hx162_0; first | rwa [add_block] at this | exact this) GW161.out); have hn162_1 : ad160.block ≠ gb161 := Nat.ne_of_lt (Nat.lt_of_lt_of_le (by have := World.block_lt_of_cell? _ _ hx162_0; first | rwa [add_block] at this | exact this) GW161.out); have hn162_2 : ad160.block ≠ gb161 := Nat.ne_of_lt (Nat.lt_of_lt_of_le (by have := World.block_lt_of_cell? _ _ hx162_0; first | rwa [add_block] at this | exact this) GW161.out); replace hx162_0 := (HB.out.cell (World.block_lt_of_cell? w _ hx162_0)).trans hx162_0; replace hx162_1 := (HB.out.cell (World.block_lt_of_cell? w _ hx162_1)).trans hx162_1; replace hx162_2 := (HB.out.cell (World.block_lt_of_cell? w _ hx162_2)).trans hx162_2; replace hx162_0 := (cell_far (p := ⟨gb161, 0, none⟩) (by first | (rw [add_block]; exact hn162_0) | (show (Addr.add _ _).block ≠ _; rw [add_block]; exact hn162_0) | exact hn162_0) (.int .i64 ((rd_T35 l0 x144_5).f0))).trans hx162_0; replace hx162_1 := (cell_far (p := ⟨gb161, 0, none⟩) (by first | (rw [add_block]; exact hn162_0) | (show (Addr.add _ _).block ≠ _; rw [add_block]; exact hn162_0) | exact hn162_0) (.int .i64 ((rd_T35 l0 x144_5).f0))).trans hx162_1; replace hx162_2 := (cell_far (p := ⟨gb161, 0, none⟩) (by first | (rw [add_block]; exact hn162_0) | (show (Addr.add _ _).block ≠ _; rw [add_block]; exact hn162_0) | exact hn162_0) (.int .i64 ((rd_T35 l0 x144_5).f0))).trans hx162_2; replace hx162_0 := (cell_far (p := ⟨gb161, 1, none⟩) (by first | (rw [add_block]; exact hn162_1) | (show (Addr.add _ _).block ≠ _; rw [add_block]; exact hn162_1) | exact hn162_1) (.int .i64 ((rd_T35 l0 x144_5).f1))).trans hx162_0; replace hx162_1 := (cell_far (p := ⟨gb161, 1, none⟩) (by first | (rw [add_block]; exact hn162_1) | (show (Addr.add _ _).block ≠ _; rw [add_block]; exact hn162_1) | exact hn162_1) (.int .i64 ((rd_T35 l0 x144_5).f1))).trans hx162_1; replace hx162_2 := (cell_far (p := ⟨gb161, 1, none⟩) (by first | (rw [add_block]; exact hn162_1) | (show (Addr.add _ _).block ≠ _; rw [add_block]; exact hn162_1) | exact hn162_1) (.int .i64 ((rd_T35 l0 x144_5).f1))).trans hx162_2; replace hx162_0 := (cell_far (p := ⟨gb161, 2, none⟩) (by first | (rw [add_block]; exact hn162_2) | (show (Addr.add _ _).block ≠ _; rw [add_block]; exact hn162_2) | exact hn162_2) (.bool false)).trans hx162_0; replace hx162_1 := (cell_far (p := ⟨gb161, 2, none⟩) (by first | (rw [add_block]; exact hn162_2) | (show (Addr.add _ _).block ≠ _; rw [add_block]; exact hn162_2) | exact hn162_2) (.bool false)).trans hx162_1; replace hx162_2 := (cell_far (p := ⟨gb161, 2, none⟩) (by first | (rw [add_block]; exact hn162_2) | (show (Addr.add _ _).block ≠ _; rw [add_block]; exact hn162_2) | exact hn162_2) (.bool false)).trans hx162_2; (try have hy162_0 := fun (n_ : Nat) => (show (((((w66.drewN n_).setCell ⟨gb161, 0, none⟩ (.int .i64 ((rd_T35 l0 x144_5).f0))).setCell ⟨gb161, 1, none⟩ (.int .i64 ((rd_T35 l0 x144_5).f1))).setCell ⟨gb161, 2, none⟩ (.bool false))).cell? _ = some _ from hx162_0)); (try have hy162_1 := fun (n_ : Nat) => (show (((((w66.drewN n_).setCell ⟨gb161, 0, none⟩ (.int .i64 ((rd_T35 l0 x144_5).f0))).setCell ⟨gb161, 1, none⟩ (.int .i64 ((rd_T35 l0 x144_5).f1))).setCell ⟨gb161, 2, none⟩ (.bool false))).cell? _ = some _ from hx162_1)); (try have hy162_2 := fun (n_ : Nat) => (show (((((w66.drewN n_).setCell ⟨gb161, 0, none⟩ (.int .i64 ((rd_T35 l0 x144_5).f0))).setCell ⟨gb161, 1, none⟩ (.int .i64 ((rd_T35 l0 x144_5).f1))).setCell ⟨gb161, 2, none⟩ (.bool false))).cell? _ = some _ from hx162_2)); clear hn162_0; clear hn162_1; clear hn162_2; replace p162 := eq_true p162; replace q162 := eq_true q162)))
                                                go_ret
                                                exact ⟨by first | rfl | (simp [errW_none, errW_some] <;> rfl) | (simp [*, errW_none, errW_some] <;> rfl), by repeat (first | (with_reducible first | exact HB.out | apply below_alloc | apply pw_below_drewN | apply below_drew1 | refine below_set ?_ GE161.out) | exact HB.out)⟩
                                              · rw [if_neg c65] at H
                                                have c65b0 : decide (((rd_T35 l0 x144_5).f1) < ((rd_T35 l0 t141).f1)) = false := decide_eq_false c65
                                                clear c65
                                                have H' := Aside0.mk H
                                                clear H
                                                have p160 : 0 ≤ (x144_5 : Int) := of_decide_eq_true (by first | (with_reducible assumption) | assumption)
                                                have q160 : x144_5 < (l0.length : Int) := of_decide_eq_true (by first | (with_reducible assumption) | assumption)
                                                obtain ⟨ad160, e160, hx160_0, hx160_1, hx160_2⟩ := at_T35 HR0.out x144_5 p160 q160
                                                (try rw [← Nbq58.out] at hx160_2)
                                                cases e160
                                                replace hx160_0 := (HB.out.cell (World.block_lt_of_cell? w _ hx160_0)).trans hx160_0
                                                replace hx160_1 := (HB.out.cell (World.block_lt_of_cell? w _ hx160_1)).trans hx160_1
                                                replace hx160_2 := (HB.out.cell (World.block_lt_of_cell? w _ hx160_2)).trans hx160_2
                                                replace p160 := eq_true p160
                                                replace q160 := eq_true q160
                                                go_wp2_with (first | ((with_reducible refine gate_dst (N := 15) rfl ?_); (try (refine gate_guard (by rfl) ?_; dsimp only)); refine box_event ?hg (N := 15) ?hd (cs := #[.int .i64 0, .int .i64 0, .bool false]) (t := 35) ?hr ?_; (case hd => rfl); (case hg => rfl); (case hr => first | (go_simp; done) | (go_simp; rfl)); intro gb161 hg w68 hbox hb; have n0_ := Aside0.mk (below_step (by repeat (first | (with_reducible first | exact HB.out | apply below_alloc | apply pw_below_drewN | apply below_drew1) | exact HB.out)) hb); have n1_ := Aside0.mk (hbox); have n2_ := Aside0.mk ((by rw [hg]; exact (below_size (by repeat (first | (with_reducible first | exact HB.out | apply below_alloc | apply pw_below_drewN | apply below_drew1) | exact HB.out))) : w.heap.size ≤ gb161)); have n3_ := Aside0.mk ((by rw [hg]; exact (below_size (by repeat (first | (with_reducible first | exact HB.out | apply below_alloc | apply pw_below_drewN | apply below_drew1) | exact HB.out))) : w.heap.size ≤ gb161)); clear HB; have HB := n0_; have BK161 := n1_; have GW161 := n2_; have GE161 := n3_; clear n0_ n1_ n2_ n3_; clear hb hbox hg; have hcz69_0 : w68.cell? ⟨gb161, 0, none⟩ = some (.int .i64 0) := (blk_cell BK161.out 0).trans rfl; have hcz69_1 : w68.cell? ⟨gb161, 1, none⟩ = some (.int .i64 0) := (blk_cell BK161.out 1).trans rfl; have hcz69_2 : w68.cell? ⟨gb161, 2, none⟩ = some (.bool false) := (blk_cell BK161.out 2).trans rfl; have hfz69_0 := blk_frozen BK161.out 0; have hfz69_1 := blk_frozen BK161.out 1; have hfz69_2 := blk_frozen BK161.out 2; have p162 : 0 ≤ (t141 : Int) := of_decide_eq_true (by first | (with_reducible assumption) | assumption); have q162 : t141 < (l0.length : Int) := of_decide_eq_true (by first | (with_reducible assumption) | assumption); obtain ⟨ad162, e162, hx162_0, hx162_1, hx162_2⟩ := at_T35 HR0.out t141 p162 q162; (try rw [← Nbq58.out] at hx162_2); obtain rfl : ad160 = ad162 := (by injection e162); have hn162_0 : ad160.block ≠ gb161 := Nat.ne_of_lt (Nat.lt_of_lt_of_le (by have := World.block_lt_of_cell? _ _ hx162_0; first | rwa [add_block] at this | exact this) GW161.out); have hn162_1 : ad160.block ≠ gb161 := Nat.ne_of_lt (Nat.lt_of_lt_of_le (by have := World.block_lt_of_cell? _ _ hx162_0; first | rwa [add_block] at this | exact this) GW161.out); have hn162_2 : ad160.block ≠ gb161 := Nat.ne_of_lt (Nat.lt_of_lt_of_le (by have := World.block_lt_of_cell? _ _ hx162_0; first | rwa [add_block] at this | exact this) GW161.out); replace hx162_0 := (HB.out.cell (World.block_lt_of_cell? w _ hx162_0)).trans hx162_0; replace hx162_1 := (HB.out.cell (World.block_lt_of_cell? w _ hx162_1)).trans hx162_1; replace hx162_2 := (HB.out.cell (World.block_lt_of_cell? w _ hx162_2)).trans hx162_2; replace hx162_0 := (cell_far (p := ⟨gb161, 0, none⟩) (by first | (rw [add_block]; exact hn162_0) | (show (Addr.add _ _).block ≠ _; rw [add_block]; exact hn162_0) | exact hn162_0) (.int .i64 ((rd_T35 l0 x144_5).f0))).trans hx162_0; replace hx162_1 := (cell_far (p := ⟨gb161, 0, none⟩) (by first | (rw [add_block]; exact hn162_0) | (show (Addr.add _ _).block ≠ _; rw [add_block]; exact hn162_0) | exact hn162_0) (.int .i64 ((rd_T35 l0 x144_5).f0))).trans hx162_1; replace hx162_2 := (cell_far (p := ⟨gb161, 0, none⟩) (by first | (rw [add_block]; exact hn162_0) | (show (Addr.add _ _).block ≠ _; rw [add_block]; exact hn162_0) | exact hn162_0) (.int .i64 ((rd_T35 l0 x144_5).f0))).trans hx162_2; replace hx162_0 := (cell_far (p := ⟨gb161, 1, none⟩) (by first | (rw [add_block]; exact hn162_1) | (show (Addr.add _ _).block ≠ _; rw [add_block]; exact hn162_1) | exact hn162_1) (.int .i64 ((rd_T35 l0 x144_5).f1))).trans hx162_0; replace hx162_1 := (cell_far (p := ⟨gb161, 1, none⟩) (by first | (rw [add_block]; exact hn162_1) | (show (Addr.add _ _).block ≠ _; rw [add_block]; exact hn162_1) | exact hn162_1) (.int .i64 ((rd_T35 l0 x144_5).f1))).trans hx162_1; replace hx162_2 := (cell_far (p := ⟨gb161, 1, none⟩) (by first | (rw [add_block]; exact hn162_1) | (show (Addr.add _ _).block ≠ _; rw [add_block]; exact hn162_1) | exact hn162_1) (.int .i64 ((rd_T35 l0 x144_5).f1))).trans hx162_2; replace hx162_0 := (cell_far (p := ⟨gb161, 2, none⟩) (by first | (rw [add_block]; exact hn162_2) | (show (Addr.add _ _).block ≠ _; rw [add_block]; exact hn162_2) | exact hn162_2) (.bool false)).trans hx162_0; replace hx162_1 := (cell_far (p := ⟨gb161, 2, none⟩) (by first | (rw [add_block]; exact hn162_2) | (show (Addr.add _ _).block ≠ _; rw [add_block]; exact hn162_2) | exact hn162_2) (.bool false)).trans hx162_1; replace hx162_2 := (cell_far (p := ⟨gb161, 2, none⟩) (by first | (rw [add_block]; exact hn162_2) | (show (Addr.add _ _).block ≠ _; rw [add_block]; exact hn162_2) | exact hn162_2) (.bool false)).trans hx162_2; (try have hy162_0 := fun (n_ : Nat) => (show (((((w68.drewN n_).setCell ⟨gb161, 0, none⟩ (.int .i64 ((rd_T35 l0 x144_5).f0))).setCell ⟨gb161, 1, none⟩ (.int .i64 ((rd_T35 l0 x144_5).f1))).setCell ⟨gb161, 2, none⟩ (.bool false))).cell? _ = some _ from hx162_0)); (try have hy162_1 := fun (n_ : Nat) => (show (((((w68.drewN n_).setCell ⟨gb161, 0, none⟩ (.int .i64 ((rd_T35 l0 x144_5).f0))).setCell ⟨gb161, 1, none⟩ (.int .i64 ((rd_T35 l0 x144_5).f1))).setCell ⟨gb161, 2, none⟩ (.bool false))).cell? _ = some _ from hx162_1)); (try have hy162_2 := fun (n_ : Nat) => (show (((((w68.drewN n_).setCell ⟨gb161, 0, none⟩ (.int .i64 ((rd_T35 l0 x144_5).f0))).setCell ⟨gb161, 1, none⟩ (.int .i64 ((rd_T35 l0 x144_5).f1))).setCell ⟨gb161, 2, none⟩ (.bool false))).cell? _ = some _ from hx162_2)); clear hn162_0; clear hn162_1; clear hn162_2; replace p162 := eq_true p162; replace q162 := eq_true q162))
                                                repeat (go_quiet (first | ((with_reducible refine gate_dst (N := 15) rfl ?_); (try (refine gate_guard (by rfl) ?_; dsimp only)); refine box_event ?hg (N := 15) ?hd (cs := #[.int .i64 0, .int .i64 0, .bool false]) (t := 35) ?hr ?_; (case hd => rfl); (case hg => rfl); (case hr => first | (go_simp; done) | (go_simp; rfl)); intro gb161 hg w68 hbox hb; have n0_ := Aside0.mk (below_step (by repeat (first | (with_reducible first | exact HB.out | apply below_alloc | apply pw_below_drewN | apply below_drew1) | exact HB.out)) hb); have n1_ := Aside0.mk (hbox); have n2_ := Aside0.mk ((by rw [hg]; exact (below_size (by repeat (first | (with_reducible first | exact HB.out | apply below_alloc | apply pw_below_drewN | apply below_drew1) | exact HB.out))) : w.heap.size ≤ gb161)); have n3_ := Aside0.mk ((by rw [hg]; exact (below_size (by repeat (first | (with_reducible first | exact HB.out | apply below_alloc | apply pw_below_drewN | apply below_drew1) | exact HB.out))) : w.heap.size ≤ gb161)); clear HB; have HB := n0_; have BK161 := n1_; have GW161 := n2_; have GE161 := n3_; clear n0_ n1_ n2_ n3_; clear hb hbox hg; have hcz69_0 : w68.cell? ⟨gb161, 0, none⟩ = some (.int .i64 0) := (blk_cell BK161.out 0).trans rfl; have hcz69_1 : w68.cell? ⟨gb161, 1, none⟩ = some (.int .i64 0) := (blk_cell BK161.out 1).trans rfl; have hcz69_2 : w68.cell? ⟨gb161, 2, none⟩ = some (.bool false) := (blk_cell BK161.out 2).trans rfl; have hfz69_0 := blk_frozen BK161.out 0; have hfz69_1 := blk_frozen BK161.out 1; have hfz69_2 := blk_frozen BK161.out 2; have p162 : 0 ≤ (t141 : Int) := of_decide_eq_true (by first | (with_reducible assumption) | assumption); have q162 : t141 < (l0.length : Int) := of_decide_eq_true (by first | (with_reducible assumption) | assumption); obtain ⟨ad162, e162, hx162_0, hx162_1, hx162_2⟩ := at_T35 HR0.out t141 p162 q162; (try rw [← Nbq58.out] at hx162_2); obtain rfl : ad160 = ad162 := (by injection e162); have hn162_0 : ad160.block ≠ gb161 := Nat.ne_of_lt (Nat.lt_of_lt_of_le (by have := World.block_lt_of_cell? _ _ hx162_0; first | rwa [add_block] at this | exact this) GW161.out); have hn162_1 : ad160.block ≠ gb161 := Nat.ne_of_lt (Nat.lt_of_lt_of_le (by have := World.block_lt_of_cell? _ _ hx162_0; first | rwa [add_block] at this | exact this) GW161.out); have hn162_2 : ad160.block ≠ gb161 := Nat.ne_of_lt (Nat.lt_of_lt_of_le (by have := World.block_lt_of_cell? _ _ hx162_0; first | rwa [add_block] at this | exact this) GW161.out); replace hx162_0 := (HB.out.cell (World.block_lt_of_cell? w _ hx162_0)).trans hx162_0; replace hx162_1 := (HB.out.cell (World.block_lt_of_cell? w _ hx162_1)).trans hx162_1; replace hx162_2 := (HB.out.cell (World.block_lt_of_cell? w _ hx162_2)).trans hx162_2; replace hx162_0 := (cell_far (p := ⟨gb161, 0, none⟩) (by first | (rw [add_block]; exact hn162_0) | (show (Addr.add _ _).block ≠ _; rw [add_block]; exact hn162_0) | exact hn162_0) (.int .i64 ((rd_T35 l0 x144_5).f0))).trans hx162_0; replace hx162_1 := (cell_far (p := ⟨gb161, 0, none⟩) (by first | (rw [add_block]; exact hn162_0) | (show (Addr.add _ _).block ≠ _; rw [add_block]; exact hn162_0) | exact hn162_0) (.int .i64 ((rd_T35 l0 x144_5).f0))).trans hx162_1; replace hx162_2 := (cell_far (p := ⟨gb161, 0, none⟩) (by first | (rw [add_block]; exact hn162_0) | (show (Addr.add _ _).block ≠ _; rw [add_block]; exact hn162_0) | exact hn162_0) (.int .i64 ((rd_T35 l0 x144_5).f0))).trans hx162_2; replace hx162_0 := (cell_far (p := ⟨gb161, 1, none⟩) (by first | (rw [add_block]; exact hn162_1) | (show (Addr.add _ _).block ≠ _; rw [add_block]; exact hn162_1) | exact hn162_1) (.int .i64 ((rd_T35 l0 x144_5).f1))).trans hx162_0; replace hx162_1 := (cell_far (p := ⟨gb161, 1, none⟩) (by first | (rw [add_block]; exact hn162_1) | (show (Addr.add _ _).block ≠ _; rw [add_block]; exact hn162_1) | exact hn162_1) (.int .i64 ((rd_T35 l0 x144_5).f1))).trans hx162_1; replace hx162_2 := (cell_far (p := ⟨gb161, 1, none⟩) (by first | (rw [add_block]; exact hn162_1) | (show (Addr.add _ _).block ≠ _; rw [add_block]; exact hn162_1) | exact hn162_1) (.int .i64 ((rd_T35 l0 x144_5).f1))).trans hx162_2; replace hx162_0 := (cell_far (p := ⟨gb161, 2, none⟩) (by first | (rw [add_block]; exact hn162_2) | (show (Addr.add _ _).block ≠ _; rw [add_block]; exact hn162_2) | exact hn162_2) (.bool false)).trans hx162_0; replace hx162_1 := (cell_far (p := ⟨gb161, 2, none⟩) (by first | (rw [add_block]; exact hn162_2) | (show (Addr.add _ _).block ≠ _; rw [add_block]; exact hn162_2) | exact hn162_2) (.bool false)).trans hx162_1; replace hx162_2 := (cell_far (p := ⟨gb161, 2, none⟩) (by first | (rw [add_block]; exact hn162_2) | (show (Addr.add _ _).block ≠ _; rw [add_block]; exact hn162_2) | exact hn162_2) (.bool false)).trans hx162_2; (try have hy162_0 := fun (n_ : Nat) => (show (((((w68.drewN n_).setCell ⟨gb161, 0, none⟩ (.int .i64 ((rd_T35 l0 x144_5).f0))).setCell ⟨gb161, 1, none⟩ (.int .i64 ((rd_T35 l0 x144_5).f1))).setCell ⟨gb161, 2, none⟩ (.bool false))).cell? _ = some _ from hx162_0)); (try have hy162_1 := fun (n_ : Nat) => (show (((((w68.drewN n_).setCell ⟨gb161, 0, none⟩ (.int .i64 ((rd_T35 l0 x144_5).f0))).setCell ⟨gb161, 1, none⟩ (.int .i64 ((rd_T35 l0 x144_5).f1))).setCell ⟨gb161, 2, none⟩ (.bool false))).cell? _ = some _ from hx162_1)); (try have hy162_2 := fun (n_ : Nat) => (show (((((w68.drewN n_).setCell ⟨gb161, 0, none⟩ (.int .i64 ((rd_T35 l0 x144_5).f0))).setCell ⟨gb161, 1, none⟩ (.int .i64 ((rd_T35 l0 x144_5).f1))).setCell ⟨gb161, 2, none⟩ (.bool false))).cell? _ = some _ from hx162_2)); clear hn162_0; clear hn162_1; clear hn162_2; replace p162 := eq_true p162; replace q162 := eq_true q162)); try go_wp2_with (first | ((with_reducible refine gate_dst (N := 15) rfl ?_); (try (refine gate_guard (by rfl) ?_; dsimp only)); refine box_event ?hg (N := 15) ?hd (cs := #[.int .i64 0, .int .i64 0, .bool false]) (t := 35) ?hr ?_; (case hd => rfl); (case hg => rfl); (case hr => first | (go_simp; done) | (go_simp; rfl)); intro gb161 hg w68 hbox hb; have n0_ := Aside0.mk (below_step (by repeat (first | (with_reducible first | exact HB.out | apply below_alloc | apply pw_below_drewN | apply below_drew1) | exact HB.out)) hb); have n1_ := Aside0.mk (hbox); have n2_ := Aside0.mk ((by rw [hg]; exact (below_size (by repeat (first | (with_reducible first | exact HB.out | apply below_alloc | apply pw_below_drewN | apply below_drew1) | exact HB.out))) : w.heap.size ≤ gb161)); have n3_ := Aside0.mk ((by rw [hg]; exact (below_size (by repeat (first | (with_reducible first | exact HB.out | apply below_alloc | apply pw_below_drewN | apply below_drew1) | exact HB.out))) : w.heap.size ≤ gb161)); clear HB; have HB := n0_; have BK161 := n1_; have GW161 := n2_; have GE161 := n3_; clear n0_ n1_ n2_ n3_; clear hb hbox hg; have hcz69_0 : w68.cell? ⟨gb161, 0, none⟩ = some (.int .i64 0) := (blk_cell BK161.out 0).trans rfl; have hcz69_1 : w68.cell? ⟨gb161, 1, none⟩ = some (.int .i64 0) := (blk_cell BK161.out 1).trans rfl; have hcz69_2 : w68.cell? ⟨gb161, 2, none⟩ = some (.bool false) := (blk_cell BK161.out 2).trans rfl; have hfz69_0 := blk_frozen BK161.out 0; have hfz69_1 := blk_frozen BK161.out 1; have hfz69_2 := blk_frozen BK161.out 2; have p162 : 0 ≤ (t141 : Int) := of_decide_eq_true (by first | (with_reducible assumption) | assumption); have q162 : t141 < (l0.length : Int) := of_decide_eq_true (by first | (with_reducible assumption) | assumption); obtain ⟨ad162, e162, hx162_0, hx162_1, hx162_2⟩ := at_T35 HR0.out t141 p162 q162; (try rw [← Nbq58.out] at hx162_2); obtain rfl : ad160 = ad162 := (by injection e162); have hn162_0 : ad160.block ≠ gb161 := Nat.ne_of_lt (Nat.lt_of_lt_of_le (by have := World.block_lt_of_cell? _ _ hx162_0; first | rwa [add_block] at this | exact this) GW161.out); have hn162_1 : ad160.block ≠ gb161 := Nat.ne_of_lt (Nat.lt_of_lt_of_le (by have := World.block_lt_of_cell? _ _ hx162_0; first | rwa [add_block] at this | exact this) GW161.out); have hn162_2 : ad160.block ≠ gb161 := Nat.ne_of_lt (Nat.lt_of_lt_of_le (by have := World.block_lt_of_cell? _ _ hx162_0; first | rwa [add_block] at this | exact this) GW161.out); replace hx162_0 := (HB.out.cell (World.block_lt_of_cell? w _ hx162_0)).trans hx162_0; replace hx162_1 := (HB.out.cell (World.block_lt_of_cell? w _ hx162_1)).trans hx162_1; replace hx162_2 := (HB.out.cell (World.block_lt_of_cell? w _ hx162_2)).trans hx162_2; replace hx162_0 := (cell_far (p := ⟨gb161, 0, none⟩) (by first | (rw [add_block]; exact hn162_0) | (show (Addr.add _ _).block ≠ _; rw [add_block]; exact hn162_0) | exact hn162_0) (.int .i64 ((rd_T35 l0 x144_5).f0))).trans hx162_0; replace hx162_1 := (cell_far (p := ⟨gb161, 0, none⟩) (by first | (rw [add_block]; exact hn162_0) | (show (Addr.add _ _).block ≠ _; rw [add_block]; exact hn162_0) | exact hn162_0) (.int .i64 ((rd_T35 l0 x144_5).f0))).trans hx162_1; replace hx162_2 := (cell_far (p := ⟨gb161, 0, none⟩) (by first | (rw [add_block]; exact hn162_0) | (show (Addr.add _ _).block ≠ _; rw [add_block]; exact hn162_0) | exact hn162_0) (.int .i64 ((rd_T35 l0 x144_5).f0))).trans hx162_2; replace hx162_0 := (cell_far (p := ⟨gb161, 1, none⟩) (by first | (rw [add_block]; exact hn162_1) | (show (Addr.add _ _).block ≠ _; rw [add_block]; exact hn162_1) | exact hn162_1) (.int .i64 ((rd_T35 l0 x144_5).f1))).trans hx162_0; replace hx162_1 := (cell_far (p := ⟨gb161, 1, none⟩) (by first | (rw [add_block]; exact hn162_1) | (show (Addr.add _ _).block ≠ _; rw [add_block]; exact hn162_1) | exact hn162_1) (.int .i64 ((rd_T35 l0 x144_5).f1))).trans hx162_1; replace hx162_2 := (cell_far (p := ⟨gb161, 1, none⟩) (by first | (rw [add_block]; exact hn162_1) | (show (Addr.add _ _).block ≠ _; rw [add_block]; exact hn162_1) | exact hn162_1) (.int .i64 ((rd_T35 l0 x144_5).f1))).trans hx162_2; replace hx162_0 := (cell_far (p := ⟨gb161, 2, none⟩) (by first | (rw [add_block]; exact hn162_2) | (show (Addr.add _ _).block ≠ _; rw [add_block]; exact hn162_2) | exact hn162_2) (.bool false)).trans hx162_0; replace hx162_1 := (cell_far (p := ⟨gb161, 2, none⟩) (by first | (rw [add_block]; exact hn162_2) | (show (Addr.add _ _).block ≠ _; rw [add_block]; exact hn162_2) | exact hn162_2) (.bool false)).trans hx162_1; replace hx162_2 := (cell_far (p := ⟨gb161, 2, none⟩) (by first | (rw [add_block]; exact hn162_2) | (show (Addr.add _ _).block ≠ _; rw [add_block]; exact hn162_2) | exact hn162_2) (.bool false)).trans hx162_2; (try have hy162_0 := fun (n_ : Nat) => (show (((((w68.drewN n_).setCell ⟨gb161, 0, none⟩ (.int .i64 ((rd_T35 l0 x144_5).f0))).setCell ⟨gb161, 1, none⟩ (.int .i64 ((rd_T35 l0 x144_5).f1))).setCell ⟨gb161, 2, none⟩ (.bool false))).cell? _ = some _ from hx162_0)); (try have hy162_1 := fun (n_ : Nat) => (show (((((w68.drewN n_).setCell ⟨gb161, 0, none⟩ (.int .i64 ((rd_T35 l0 x144_5).f0))).setCell ⟨gb161, 1, none⟩ (.int .i64 ((rd_T35 l0 x144_5).f1))).setCell ⟨gb161, 2, none⟩ (.bool false))).cell? _ = some _ from hx162_1)); (try have hy162_2 := fun (n_ : Nat) => (show (((((w68.drewN n_).setCell ⟨gb161, 0, none⟩ (.int .i64 ((rd_T35 l0 x144_5).f0))).setCell ⟨gb161, 1, none⟩ (.int .i64 ((rd_T35 l0 x144_5).f1))).setCell ⟨gb161, 2, none⟩ (.bool false))).cell? _ = some _ from hx162_2)); clear hn162_0; clear hn162_1; clear hn162_2; replace p162 := eq_true p162; replace q162 := eq_true q162)))
                                                go_roundg k5
                                                case measure => have := HJ3.out; have := HK2.out; have := HJ23.out; have := HK4.out; have := HK5.out; omega
                                                case rel => exact ⟨(wrap64 (x144_5 + 1)), (by first | rfl | (simp; done) | (simp [*]; done)), H', ⟨by have := HJ3.out; have := HK2.out; have := HJ23.out; have := HK4.out; have := HK5.out; omega⟩, ⟨by repeat (first | (with_reducible first | exact HB.out | apply below_alloc | apply pw_below_drewN | apply below_drew1 | refine below_set ?_ GE161.out) | exact HB.out)⟩⟩
                                            · rw [if_neg c64] at H
                                              exact absurd H (by simp)
                                          · rw [if_neg c63] at H
                                            exact absurd H (by simp)
                                        · rw [if_neg c62] at H
                                          have c62b0 : decide ((wrap64 (2 + (wrap64 (Int.tmod (IntKind.u64.wrap (a1)) 60)))) ≤ ((rd_T35 l0 x144_5).f1)) = false := decide_eq_false c62
                                          clear c62
                                          have H' := Aside0.mk H
                                          clear H
                                          have p160 : 0 ≤ (x144_5 : Int) := of_decide_eq_true (by first | (with_reducible assumption) | assumption)
                                          have q160 : x144_5 < (l0.length : Int) := of_decide_eq_true (by first | (with_reducible assumption) | assumption)
                                          obtain ⟨ad160, e160, hx160_0, hx160_1, hx160_2⟩ := at_T35 HR0.out x144_5 p160 q160
                                          (try rw [← Nbq58.out] at hx160_2)
                                          cases e160
                                          replace hx160_0 := (HB.out.cell (World.block_lt_of_cell? w _ hx160_0)).trans hx160_0
                                          replace hx160_1 := (HB.out.cell (World.block_lt_of_cell? w _ hx160_1)).trans hx160_1
                                          replace hx160_2 := (HB.out.cell (World.block_lt_of_cell? w _ hx160_2)).trans hx160_2
                                          replace p160 := eq_true p160
                                          replace q160 := eq_true q160
                                          go_wp2_with (first | ((with_reducible refine gate_dst (N := 15) rfl ?_); (try (refine gate_guard (by rfl) ?_; dsimp only)); refine box_event ?hg (N := 15) ?hd (cs := #[.int .i64 0, .int .i64 0, .bool false]) (t := 35) ?hr ?_; (case hd => rfl); (case hg => rfl); (case hr => first | (go_simp; done) | (go_simp; rfl)); intro gb161 hg w70 hbox hb; have n0_ := Aside0.mk (below_step (by repeat (first | (with_reducible first | exact HB.out | apply below_alloc | apply pw_below_drewN | apply below_drew1) | exact HB.out)) hb); have n1_ := Aside0.mk (hbox); have n2_ := Aside0.mk ((by rw [hg]; exact (below_size (by repeat (first | (with_reducible first | exact HB.out | apply below_alloc | apply pw_below_drewN | apply below_drew1) | exact HB.out))) : w.heap.size ≤ gb161)); have n3_ := Aside0.mk ((by rw [hg]; exact (below_size (by repeat (first | (with_reducible first | exact HB.out | apply below_alloc | apply pw_below_drewN | apply below_drew1) | exact HB.out))) : w.heap.size ≤ gb161)); clear HB; have HB := n0_; have BK161 := n1_; have GW161 := n2_; have GE161 := n3_; clear n0_ n1_ n2_ n3_; clear hb hbox hg; have hcz71_0 : w70.cell? ⟨gb161, 0, none⟩ = some (.int .i64 0) := (blk_cell BK161.out 0).trans rfl; have hcz71_1 : w70.cell? ⟨gb161, 1, none⟩ = some (.int .i64 0) := (blk_cell BK161.out 1).trans rfl; have hcz71_2 : w70.cell? ⟨gb161, 2, none⟩ = some (.bool false) := (blk_cell BK161.out 2).trans rfl; have hfz71_0 := blk_frozen BK161.out 0; have hfz71_1 := blk_frozen BK161.out 1; have hfz71_2 := blk_frozen BK161.out 2))
                                          repeat (go_quiet (first | ((with_reducible refine gate_dst (N := 15) rfl ?_); (try (refine gate_guard (by rfl) ?_; dsimp only)); refine box_event ?hg (N := 15) ?hd (cs := #[.int .i64 0, .int .i64 0, .bool false]) (t := 35) ?hr ?_; (case hd => rfl); (case hg => rfl); (case hr => first | (go_simp; done) | (go_simp; rfl)); intro gb161 hg w70 hbox hb; have n0_ := Aside0.mk (below_step (by repeat (first | (with_reducible first | exact HB.out | apply below_alloc | apply pw_below_drewN | apply below_drew1) | exact HB.out)) hb); have n1_ := Aside0.mk (hbox); have n2_ := Aside0.mk ((by rw [hg]; exact (below_size (by repeat (first | (with_reducible first | exact HB.out | apply below_alloc | apply pw_below_drewN | apply below_drew1) | exact HB.out))) : w.heap.size ≤ gb161)); have n3_ := Aside0.mk ((by rw [hg]; exact (below_size (by repeat (first | (with_reducible first | exact HB.out | apply below_alloc | apply pw_below_drewN | apply below_drew1) | exact HB.out))) : w.heap.size ≤ gb161)); clear HB; have HB := n0_; have BK161 := n1_; have GW161 := n2_; have GE161 := n3_; clear n0_ n1_ n2_ n3_; clear hb hbox hg; have hcz71_0 : w70.cell? ⟨gb161, 0, none⟩ = some (.int .i64 0) := (blk_cell BK161.out 0).trans rfl; have hcz71_1 : w70.cell? ⟨gb161, 1, none⟩ = some (.int .i64 0) := (blk_cell BK161.out 1).trans rfl; have hcz71_2 : w70.cell? ⟨gb161, 2, none⟩ = some (.bool false) := (blk_cell BK161.out 2).trans rfl; have hfz71_0 := blk_frozen BK161.out 0; have hfz71_1 := blk_frozen BK161.out 1; have hfz71_2 := blk_frozen BK161.out 2)); try go_wp2_with (first | ((with_reducible refine gate_dst (N := 15) rfl ?_); (try (refine gate_guard (by rfl) ?_; dsimp only)); refine box_event ?hg (N := 15) ?hd (cs := #[.int .i64 0, .int .i64 0, .bool false]) (t := 35) ?hr ?_; (case hd => rfl); (case hg => rfl); (case hr => first | (go_simp; done) | (go_simp; rfl)); intro gb161 hg w70 hbox hb; have n0_ := Aside0.mk (below_step (by repeat (first | (with_reducible first | exact HB.out | apply below_alloc | apply pw_below_drewN | apply below_drew1) | exact HB.out)) hb); have n1_ := Aside0.mk (hbox); have n2_ := Aside0.mk ((by rw [hg]; exact (below_size (by repeat (first | (with_reducible first | exact HB.out | apply below_alloc | apply pw_below_drewN | apply below_drew1) | exact HB.out))) : w.heap.size ≤ gb161)); have n3_ := Aside0.mk ((by rw [hg]; exact (below_size (by repeat (first | (with_reducible first | exact HB.out | apply below_alloc | apply pw_below_drewN | apply below_drew1) | exact HB.out))) : w.heap.size ≤ gb161)); clear HB; have HB := n0_; have BK161 := n1_; have GW161 := n2_; have GE161 := n3_; clear n0_ n1_ n2_ n3_; clear hb hbox hg; have hcz71_0 : w70.cell? ⟨gb161, 0, none⟩ = some (.int .i64 0) := (blk_cell BK161.out 0).trans rfl; have hcz71_1 : w70.cell? ⟨gb161, 1, none⟩ = some (.int .i64 0) := (blk_cell BK161.out 1).trans rfl; have hcz71_2 : w70.cell? ⟨gb161, 2, none⟩ = some (.bool false) := (blk_cell BK161.out 2).trans rfl; have hfz71_0 := blk_frozen BK161.out 0; have hfz71_1 := blk_frozen BK161.out 1; have hfz71_2 := blk_frozen BK161.out 2)))
                                          go_roundg k5
                                          case measure => have := HJ3.out; have := HK2.out; have := HJ23.out; have := HK4.out; have := HK5.out; omega
                                          case rel => exact ⟨(wrap64 (x144_5 + 1)), (by first | rfl | (simp; done) | (simp [*]; done)), H', ⟨by have := HJ3.out; have := HK2.out; have := HJ23.out; have := HK4.out; have := HK5.out; omega⟩, ⟨by repeat (first | (with_reducible first | exact HB.out | apply below_alloc | apply pw_below_drewN | apply below_drew1 | refine below_set ?_ GE161.out) | exact HB.out)⟩⟩
                                    · rw [if_neg c57] at H
                                      exact absurd H (by simp)
                                  · rw [if_neg c56] at H
                                    exact absurd H (by simp)
                                · rw [if_neg c55] at H
                                  have c55b0 : decide (x144_5 < (l0.length : Int)) = false := decide_eq_false c55
                                  clear c55
                                  by_cases c72 : x11_4 = true
                                  · subst c72
                                    have H1 : ((darninglaw15_awake.f k5).bind fun t163 => (some t163)) = some r := by rw [if_pos rfl] at H; exact H
                                    clear H
                                    have H := H1
                                    clear H1
                                    replace H := Option.bind_eq_some_iff.mp H
                                    obtain ⟨t163, A730, H⟩ := H
                                    replace H : (some t163) = some r := H
                                    have A73 := Aside0.mk A730
                                    clear A730
                                    obtain rfl := Option.some.inj H
                                    go_wp2_with (first | (go_at_call 21; (with_reducible refine (darninglaw15_awake.calls k5  t163 _ A73.out).mono ?_); rintro e w74 ⟨rfl, hb⟩; have n0_ := Aside0.mk (below_step (by repeat (first | (with_reducible first | exact HB.out | apply below_alloc | apply pw_below_drewN | apply below_drew1) | exact HB.out)) hb); clear HB; have HB := n0_; clear n0_; (try clear hb); (try clear hb2); (try clear hk); (try clear hi)))
                                    repeat (go_quiet (first | (go_at_call 21; (with_reducible refine (darninglaw15_awake.calls k5  t163 _ A73.out).mono ?_); rintro e w74 ⟨rfl, hb⟩; have n0_ := Aside0.mk (below_step (by repeat (first | (with_reducible first | exact HB.out | apply below_alloc | apply pw_below_drewN | apply below_drew1) | exact HB.out)) hb); clear HB; have HB := n0_; clear n0_; (try clear hb); (try clear hb2); (try clear hk); (try clear hi))); try go_wp2_with (first | (go_at_call 21; (with_reducible refine (darninglaw15_awake.calls k5  t163 _ A73.out).mono ?_); rintro e w74 ⟨rfl, hb⟩; have n0_ := Aside0.mk (below_step (by repeat (first | (with_reducible first | exact HB.out | apply below_alloc | apply pw_below_drewN | apply below_drew1) | exact HB.out)) hb); clear HB; have HB := n0_; clear n0_; (try clear hb); (try clear hb2); (try clear hk); (try clear hi))))
                                    go_ret
                                    exact ⟨by first | rfl | (simp [errW_none, errW_some] <;> rfl) | (simp [*, errW_none, errW_some] <;> rfl), by repeat (first | (with_reducible first | exact HB.out | apply below_alloc | apply pw_below_drewN | apply below_drew1) | exact HB.out)⟩
                                  · replace c72 := Bool.eq_false_iff.mpr c72
                                    subst c72
                                    have H1 : (some false) = some r := by rw [if_neg (show ¬ (false = true) by decide)] at H; exact H
                                    clear H
                                    have H := H1
                                    clear H1
                                    obtain rfl := Option.some.inj H
                                    go_wp2
                                    repeat (go_quiet (fail); try go_wp2)
                                    go_ret
                                    exact ⟨by first | rfl | (simp [errW_none, errW_some] <;> rfl) | (simp [*, errW_none, errW_some] <;> rfl), by repeat (first | (with_reducible first | exact HB.out | apply below_alloc | apply pw_below_drewN | apply below_drew1) | exact HB.out)⟩
              · replace c23 := Bool.eq_false_iff.mpr c23
                subst c23
                have H1 : (if t141 = (-1) then ((fit_Fits.f k2 l0 (wrap64 (2 + (wrap64 (Int.tmod (IntKind.u64.wrap (a1)) 60))))).bind fun t144 => (if (t144.length : Int) = 0 then ((darninglaw15_awake.f k2).bind fun t147 => (some t147)) else (some false))) else (some false)) = some r := by rw [if_neg (show ¬ (false = true) by decide)] at H; exact H
                clear H
                have H := H1
                clear H1
                by_cases c75 : t141 = (-1)
                · rw [if_pos c75] at H
                  have c75b0 : (t141 == (-1)) = true := beq_iff_eq.mpr c75
                  have c75b1 : (t141 != (-1)) = false := bne_eq_false_iff_eq.mpr c75
                  clear c75
                  replace H := Option.bind_eq_some_iff.mp H
                  obtain ⟨t144, A760, H⟩ := H
                  replace H : (if (t144.length : Int) = 0 then ((darninglaw15_awake.f k2).bind fun t147 => (some t147)) else (some false)) = some r := H
                  have A76 := Aside0.mk A760
                  clear A760
                  by_cases c77 : (t144.length : Int) = 0
                  · rw [if_pos c77] at H
                    have c77b0 : ((t144.length : Int) == 0) = true := beq_iff_eq.mpr c77
                    have c77b1 : ((t144.length : Int) != 0) = false := bne_eq_false_iff_eq.mpr c77
                    clear c77
                    replace H := Option.bind_eq_some_iff.mp H
                    obtain ⟨t147, A780, H⟩ := H
                    replace H : (some t147) = some r := H
                    have A78 := Aside0.mk A780
                    clear A780
                    obtain rfl := Option.some.inj H
                    go_wp2_with (first | (go_at_call 23; (with_reducible refine (fit_Fits.calls k2 _ _ l0 (wrap64 (2 + (wrap64 (Int.tmod (IntKind.u64.wrap (a1)) 60)))) t144 _ ?side1 ?side2 A76.out).mono ?_); (case side1 => repeat (first | exact (Kd.C_below HR0.out HB.out) | (with_reducible refine Kd.C_alloc ?_ _) | (with_reducible refine Kd.C_drewN ?_ _) | (with_reducible refine Kd.C_drew ?_))); (case side2 => exact HC0.out); rintro e w79 ⟨v145, rfl, ho0, hb⟩; have n0_ := Aside0.mk (Kd.R_lower ho0 (below_size (by repeat (first | (with_reducible first | exact HB.out | apply below_alloc | apply pw_below_drewN | apply below_drew1) | exact HB.out)))); have n1_ := Aside0.mk (below_step (by repeat (first | (with_reducible first | exact HB.out | apply below_alloc | apply pw_below_drewN | apply below_drew1) | exact HB.out)) hb); clear HB; have HO146 := n0_; have HB := n1_; clear n0_ n1_; (try clear hb); (try clear hb2); (try clear hk); (try clear hi); (try clear ho0); obtain ⟨Ao80, co80, eo80⟩ := Kd.R_slice HO146.out; subst eo80) | (go_at_call 21; (with_reducible refine (darninglaw15_awake.calls k2  t147 _ A78.out).mono ?_); rintro e w81 ⟨rfl, hb⟩; have n0_ := Aside0.mk (Kd.R_below (by (with_reducible repeat (first | apply Kd.R_alloc | apply Kd.R_drewN | apply Kd.R_drew)); exact HO146.out) hb); have n1_ := Aside0.mk (below_step (by repeat (first | (with_reducible first | exact HB.out | apply below_alloc | apply pw_below_drewN | apply below_drew1) | exact HB.out)) hb); clear HO146; clear HB; have HO146 := n0_; have HB := n1_; clear n0_ n1_; (try clear hb); (try clear hb2); (try clear hk); (try clear hi)))
                    repeat (go_quiet (first | (go_at_call 23; (with_reducible refine (fit_Fits.calls k2 _ _ l0 (wrap64 (2 + (wrap64 (Int.tmod (IntKind.u64.wrap (a1)) 60)))) t144 _ ?side1 ?side2 A76.out).mono ?_); (case side1 => repeat (first | exact (Kd.C_below HR0.out HB.out) | (with_reducible refine Kd.C_alloc ?_ _) | (with_reducible refine Kd.C_drewN ?_ _) | (with_reducible refine Kd.C_drew ?_))); (case side2 => exact HC0.out); rintro e w79 ⟨v145, rfl, ho0, hb⟩; have n0_ := Aside0.mk (Kd.R_lower ho0 (below_size (by repeat (first | (with_reducible first | exact HB.out | apply below_alloc | apply pw_below_drewN | apply below_drew1) | exact HB.out)))); have n1_ := Aside0.mk (below_step (by repeat (first | (with_reducible first | exact HB.out | apply below_alloc | apply pw_below_drewN | apply below_drew1) | exact HB.out)) hb); clear HB; have HO146 := n0_; have HB := n1_; clear n0_ n1_; (try clear hb); (try clear hb2); (try clear hk); (try clear hi); (try clear ho0); obtain ⟨Ao80, co80, eo80⟩ := Kd.R_slice HO146.out; subst eo80) | (go_at_call 21; (with_reducible refine (darninglaw15_awake.calls k2  t147 _ A78.out).mono ?_); rintro e w81 ⟨rfl, hb⟩; have n0_ := Aside0.mk (Kd.R_below (by (with_reducible repeat (first | apply Kd.R_alloc | apply Kd.R_drewN | apply Kd.R_drew)); exact HO146.out) hb); have n1_ := Aside0.mk (below_step (by repeat (first | (with_reducible first | exact HB.out | apply below_alloc | apply pw_below_drewN | apply below_drew1) | exact HB.out)) hb); clear HO146; clear HB; have HO146 := n0_; have HB := n1_; clear n0_ n1_; (try clear hb); (try clear hb2); (try clear hk); (try clear hi))); try go_wp2_with (first | (go_at_call 23; (with_reducible refine (fit_Fits.calls k2 _ _ l0 (wrap64 (2 + (wrap64 (Int.tmod (IntKind.u64.wrap (a1)) 60)))) t144 _ ?side1 ?side2 A76.out).mono ?_); (case side1 => repeat (first | exact (Kd.C_below HR0.out HB.out) | (with_reducible refine Kd.C_alloc ?_ _) | (with_reducible refine Kd.C_drewN ?_ _) | (with_reducible refine Kd.C_drew ?_))); (case side2 => exact HC0.out); rintro e w79 ⟨v145, rfl, ho0, hb⟩; have n0_ := Aside0.mk (Kd.R_lower ho0 (below_size (by repeat (first | (with_reducible first | exact HB.out | apply below_alloc | apply pw_below_drewN | apply below_drew1) | exact HB.out)))); have n1_ := Aside0.mk (below_step (by repeat (first | (with_reducible first | exact HB.out | apply below_alloc | apply pw_below_drewN | apply below_drew1) | exact HB.out)) hb); clear HB; have HO146 := n0_; have HB := n1_; clear n0_ n1_; (try clear hb); (try clear hb2); (try clear hk); (try clear hi); (try clear ho0); obtain ⟨Ao80, co80, eo80⟩ := Kd.R_slice HO146.out; subst eo80) | (go_at_call 21; (with_reducible refine (darninglaw15_awake.calls k2  t147 _ A78.out).mono ?_); rintro e w81 ⟨rfl, hb⟩; have n0_ := Aside0.mk (Kd.R_below (by (with_reducible repeat (first | apply Kd.R_alloc | apply Kd.R_drewN | apply Kd.R_drew)); exact HO146.out) hb); have n1_ := Aside0.mk (below_step (by repeat (first | (with_reducible first | exact HB.out | apply below_alloc | apply pw_below_drewN | apply below_drew1) | exact HB.out)) hb); clear HO146; clear HB; have HO146 := n0_; have HB := n1_; clear n0_ n1_; (try clear hb); (try clear hb2); (try clear hk); (try clear hi))))
                    go_ret
                    exact ⟨by first | rfl | (simp [errW_none, errW_some] <;> rfl) | (simp [*, errW_none, errW_some] <;> rfl), by repeat (first | (with_reducible first | exact HB.out | apply below_alloc | apply pw_below_drewN | apply below_drew1) | exact HB.out)⟩
                  · rw [if_neg c77] at H
                    have c77b0 : ((t144.length : Int) == 0) = false := beq_eq_false_iff_ne.mpr c77
                    have c77b1 : ((t144.length : Int) != 0) = true := bne_iff_ne.mpr c77
                    have c77b2 : ¬ (t144 = []) := fun h_ => c77 (by rw [h_]; rfl)
                    obtain rfl := Option.some.inj H
                    go_wp2_with (first | (go_at_call 23; (with_reducible refine (fit_Fits.calls k2 _ _ l0 (wrap64 (2 + (wrap64 (Int.tmod (IntKind.u64.wrap (a1)) 60)))) t144 _ ?side1 ?side2 A76.out).mono ?_); (case side1 => repeat (first | exact (Kd.C_below HR0.out HB.out) | (with_reducible refine Kd.C_alloc ?_ _) | (with_reducible refine Kd.C_drewN ?_ _) | (with_reducible refine Kd.C_drew ?_))); (case side2 => exact HC0.out); rintro e w82 ⟨v145, rfl, ho0, hb⟩; have n0_ := Aside0.mk (Kd.R_lower ho0 (below_size (by repeat (first | (with_reducible first | exact HB.out | apply below_alloc | apply pw_below_drewN | apply below_drew1) | exact HB.out)))); have n1_ := Aside0.mk (below_step (by repeat (first | (with_reducible first | exact HB.out | apply below_alloc | apply pw_below_drewN | apply below_drew1) | exact HB.out)) hb); clear HB; have HO146 := n0_; have HB := n1_; clear n0_ n1_; (try clear hb); (try clear hb2); (try clear hk); (try clear hi); (try clear ho0); obtain ⟨Ao83, co83, eo83⟩ := Kd.R_slice HO146.out; subst eo83))
                    repeat (go_quiet (first | (go_at_call 23; (with_reducible refine (fit_Fits.calls k2 _ _ l0 (wrap64 (2 + (wrap64 (Int.tmod (IntKind.u64.wrap (a1)) 60)))) t144 _ ?side1 ?side2 A76.out).mono ?_); (case side1 => repeat (first | exact (Kd.C_below HR0.out HB.out) | (with_reducible refine Kd.C_alloc ?_ _) | (with_reducible refine Kd.C_drewN ?_ _) | (with_reducible refine Kd.C_drew ?_))); (case side2 => exact HC0.out); rintro e w82 ⟨v145, rfl, ho0, hb⟩; have n0_ := Aside0.mk (Kd.R_lower ho0 (below_size (by repeat (first | (with_reducible first | exact HB.out | apply below_alloc | apply pw_below_drewN | apply below_drew1) | exact HB.out)))); have n1_ := Aside0.mk (below_step (by repeat (first | (with_reducible first | exact HB.out | apply below_alloc | apply pw_below_drewN | apply below_drew1) | exact HB.out)) hb); clear HB; have HO146 := n0_; have HB := n1_; clear n0_ n1_; (try clear hb); (try clear hb2); (try clear hk); (try clear hi); (try clear ho0); obtain ⟨Ao83, co83, eo83⟩ := Kd.R_slice HO146.out; subst eo83)); try go_wp2_with (first | (go_at_call 23; (with_reducible refine (fit_Fits.calls k2 _ _ l0 (wrap64 (2 + (wrap64 (Int.tmod (IntKind.u64.wrap (a1)) 60)))) t144 _ ?side1 ?side2 A76.out).mono ?_); (case side1 => repeat (first | exact (Kd.C_below HR0.out HB.out) | (with_reducible refine Kd.C_alloc ?_ _) | (with_reducible refine Kd.C_drewN ?_ _) | (with_reducible refine Kd.C_drew ?_))); (case side2 => exact HC0.out); rintro e w82 ⟨v145, rfl, ho0, hb⟩; have n0_ := Aside0.mk (Kd.R_lower ho0 (below_size (by repeat (first | (with_reducible first | exact HB.out | apply below_alloc | apply pw_below_drewN | apply below_drew1) | exact HB.out)))); have n1_ := Aside0.mk (below_step (by repeat (first | (with_reducible first | exact HB.out | apply below_alloc | apply pw_below_drewN | apply below_drew1) | exact HB.out)) hb); clear HB; have HO146 := n0_; have HB := n1_; clear n0_ n1_; (try clear hb); (try clear hb2); (try clear hk); (try clear hi); (try clear ho0); obtain ⟨Ao83, co83, eo83⟩ := Kd.R_slice HO146.out; subst eo83)))
                    go_ret
                    exact ⟨by first | rfl | (simp [errW_none, errW_some] <;> rfl) | (simp [*, errW_none, errW_some] <;> rfl), by repeat (first | (with_reducible first | exact HB.out | apply below_alloc | apply pw_below_drewN | apply below_drew1) | exact HB.out)⟩
                · rw [if_neg c75] at H
                  have c75b0 : (t141 == (-1)) = false := beq_eq_false_iff_ne.mpr c75
                  have c75b1 : (t141 != (-1)) = true := bne_iff_ne.mpr c75
                  obtain rfl := Option.some.inj H
                  go_wp2
                  repeat (go_quiet (fail); try go_wp2)
                  go_ret
                  exact ⟨by first | rfl | (simp [errW_none, errW_some] <;> rfl) | (simp [*, errW_none, errW_some] <;> rfl), by repeat (first | (with_reducible first | exact HB.out | apply below_alloc | apply pw_below_drewN | apply below_drew1) | exact HB.out)⟩
/-- What a value of type 35 that is read fits. -/
def wfT35 (x : S35) : Prop := (Lit.int .i64 x.f0).wf = true ∧ (Lit.int .i64 x.f1).wf = true ∧ True

/-- THE ONE PURE STATEMENT of darninglaw15_FitBest. -/
def darninglaw15_FitBest.Pure : Prop := ∀ (l0 : List (S35)) (a1 : Int) (l2 : List Int), l0.length ≤ maxLen → l0.length * 24 ≤ 140737488351232 → (∀ x ∈ l0, wfT35 x) → (Lit.int .i64 a1).wf = true → l2.length ≤ maxLen → l2.length * 8 ≤ 140737488351232 → (∀ x ∈ l2, (Lit.int .i64 x).wf = true) → ∃ k, darninglaw15_FitBest.f k l0 a1 l2 = some true
theorem darninglaw15_FitBest.walk (P : darninglaw15_FitBest.Pure) (A0 : Option Addr) (c0 : Nat) (l0 : List (S35)) (a1 : Int) (A2 : Option Addr) (c2 : Nat) (l2 : List Int) (w : World) (hr0 : Kd.C k35 w A0 l0.length l0) (hc0 : l0.length ≤ c0) (hr2 : Kd.C (Kd.int .i64) w A2 l2.length l2) (hc2 : l2.length ≤ c2) (hm0 : l0.length ≤ maxLen) (y0 : l0.length * 24 ≤ 140737488351232) (hw0 : (∀ x ∈ l0, wfT35 x)) (w1 : (Lit.int .i64 a1).wf = true) (hm2 : l2.length ≤ maxLen) (y2 : l2.length * 8 ≤ 140737488351232) (hw2 : (∀ x ∈ l2, (Lit.int .i64 x).wf = true)) :
    Calls Try.prog 5 #[.slice A0 l0.length c0, .int .i64 a1, .slice A2 l2.length c2] w fun e w' => e = .returned (.bool true) ∧ Below w.heap.size w w' := by
  obtain ⟨k, h⟩ := P l0 a1 l2 hm0 y0 hw0 w1 hm2 y2 hw2
  refine (darninglaw15_FitBest.calls k A0 c0 l0 a1 A2 c2 l2 true w hr0 hc0 hr2 hc2 h).mono ?_
  rintro e w' ⟨rfl, hd⟩
  exact ⟨rfl, hd⟩

end Go.Proofs.Ytjmlbkbjmeeplab.XFitBest
