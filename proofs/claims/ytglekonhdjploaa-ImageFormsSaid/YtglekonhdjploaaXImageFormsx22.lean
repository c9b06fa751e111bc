-- printed by wip/xprint.py
import Derived.Test.YtglekonhdjploaaXImageFormsx0
import Derived.Test.YtglekonhdjploaaXImageFormsx12
import Derived.Test.YtglekonhdjploaaXImageFormsx13
namespace Go.Proofs.Ytglekonhdjploaa.XImageForms
open Go.RowKit Go.Proofs.YtglekonhdjploaaW.PrintWords Go.Proofs.YtglekonhdjploaaW.PrintLast Go.Proofs.YtglekonhdjploaaW.PrintMore
attribute [local go_sem] max2_int min2_int max_two min_two max_three min_three max_four min_four
set_option linter.unusedVariables false
set_option linter.unusedSimpArgs false

/-! ### darningref4_Merged: function 17 -/
mutual
def darningref4_Merged.j0 : Nat → List (S35) → Int → Bool → Option ((List (S35)) × Int × Bool)
 | 0, _, _, _ => none
 | k + 1, x0, x1, x35 => if x35 = true then (some (([] : List (S35)), 0, false)) else (if x1 > 0 then (if 0 ≤ (wrap64 (x1 - 1)) then (if (wrap64 (x1 - 1)) < (x0.length : Int) then (darningref4_Merged.j1 k x0 x1 (wrap64 (x1 + 1)) (!((rd_T35 x0 (wrap64 (x1 - 1))).f2))) else (none)) else (none)) else (darningref4_Merged.j1 k x0 x1 (wrap64 (x1 + 1)) false))
def darningref4_Merged.j1 : Nat → List (S35) → Int → Int → Bool → Option ((List (S35)) × Int × Bool)
 | 0, _, _, _, _ => none
 | k + 1, x0, x7, x8, x49 => if x49 = true then (darningref4_Merged.j2 k x0 (wrap64 (x7 - 1)) x8) else (darningref4_Merged.j2 k x0 x7 x8)
def darningref4_Merged.j2 : Nat → List (S35) → Int → Int → Option ((List (S35)) × Int × Bool)
 | 0, _, _, _ => none
 | k + 1, x0, x7, x8 => if x8 < (x0.length : Int) then (if 0 ≤ x8 then (darningref4_Merged.j3 k x0 x7 x8 (!((rd_T35 x0 x8).f2))) else (none)) else (darningref4_Merged.j3 k x0 x7 x8 false)
def darningref4_Merged.j3 : Nat → List (S35) → Int → Int → Bool → Option ((List (S35)) × Int × Bool)
 | 0, _, _, _, _ => none
 | k + 1, x0, x7, x8, x63 => if x63 = true then (darningref4_Merged.j4 k x0 x7 (wrap64 (x8 + 1))) else (darningref4_Merged.j4 k x0 x7 x8)
def darningref4_Merged.j4 : Nat → List (S35) → Int → Int → Option ((List (S35)) × Int × Bool)
 | 0, _, _, _ => none
 | k + 1, x0, x7, x8 => if 0 ≤ x7 then (if x7 ≤ x8 then (if x8 ≤ (x0.length : Int) then ((some ((x0.take (x8 : Int).toNat).drop (x7 : Int).toNat : List (S35))).bind fun y408 => (darningref4_Merged.l0 k x0 x7 x8 0 y408 (y408.length : Int) 0)) else (none)) else (none)) else (none)
def darningref4_Merged.l0 : Nat → List (S35) → Int → Int → Int → List (S35) → Int → Int → Option ((List (S35)) × Int × Bool)
 | 0, _, _, _, _, _, _, _ => none
 | k + 1, x0, x7, x8, x9, x69, x70, x71 => if x71 < x70 then (if 0 ≤ x71 then (if x71 < (x69.length : Int) then (darningref4_Merged.l0 k x0 x7 x8 (wrap64 (x9 + ((rd_T35 x69 x71).f1))) x69 x70 (wrap64 (x71 + 1))) else (none)) else (none)) else (if 0 ≤ x7 then (if x7 ≤ (x0.length : Int) then ((some (x0.take (x7 : Int).toNat : List (S35))).bind fun y414 => (if ([] : List (S35)).length + y414.length < 5864062014805 then ((some (([] : List (S35)) ++ y414 : List (S35))).bind fun y418 => (if x7 < (x0.length : Int) then ((some (([(⟨(rd_T35 x0 x7).f0, x9, false⟩ : S35)] : List (S35)) : List (S35))).bind fun y422 => (if y418.length + y422.length < 5864062014805 then ((some (y418 ++ y422 : List (S35))).bind fun y425 => (if 0 ≤ x8 then (if x8 ≤ (x0.length : Int) then ((some (x0.drop (x8 : Int).toNat : List (S35))).bind fun y428 => (if y425.length + y428.length < 5864062014805 then (some ((y425 ++ y428), x7, true)) else (none))) else (none)) else (none))) else (none))) else (none))) else (none))) else (none)) else (none))
end
def darningref4_Merged.f (k : Nat) (l0 : List (S35)) (a1 : Int) : Option ((List (S35)) × Int × Bool) := (darningref4_sizes.f k l0).bind fun t403 => ((darningref4_MayBlocks.f k l0 t403).bind fun t404 => (if t404 = true then (if a1 < 0 then (darningref4_Merged.j0 k l0 a1 true) else (if a1 ≥ (l0.length : Int) then (darningref4_Merged.j0 k l0 a1 true) else (if 0 ≤ a1 then (if a1 < (l0.length : Int) then (darningref4_Merged.j0 k l0 a1 (!((rd_T35 l0 a1).f2))) else (none)) else (none)))) else (darningref4_Merged.j0 k l0 a1 true)))
theorem darningref4_Merged.mono_l : ∀ k, (∀ y0 y1 y2, LeO (darningref4_Merged.j0 k y0 y1 y2) (darningref4_Merged.j0 (k + 1) y0 y1 y2)) ∧ (∀ y0 y1 y2 y3, LeO (darningref4_Merged.j1 k y0 y1 y2 y3) (darningref4_Merged.j1 (k + 1) y0 y1 y2 y3)) ∧ (∀ y0 y1 y2, LeO (darningref4_Merged.j2 k y0 y1 y2) (darningref4_Merged.j2 (k + 1) y0 y1 y2)) ∧ (∀ y0 y1 y2 y3, LeO (darningref4_Merged.j3 k y0 y1 y2 y3) (darningref4_Merged.j3 (k + 1) y0 y1 y2 y3)) ∧ (∀ y0 y1 y2, LeO (darningref4_Merged.j4 k y0 y1 y2) (darningref4_Merged.j4 (k + 1) y0 y1 y2)) ∧ (∀ y0 y1 y2 y3 y4 y5 y6, LeO (darningref4_Merged.l0 k y0 y1 y2 y3 y4 y5 y6) (darningref4_Merged.l0 (k + 1) y0 y1 y2 y3 y4 y5 y6))
 | 0 => ⟨fun _ _ _ r h => by simp [darningref4_Merged.j0] at h, fun _ _ _ _ r h => by simp [darningref4_Merged.j1] at h, fun _ _ _ r h => by simp [darningref4_Merged.j2] at h, fun _ _ _ _ r h => by simp [darningref4_Merged.j3] at h, fun _ _ _ r h => by simp [darningref4_Merged.j4] at h, fun _ _ _ _ _ _ _ r h => by simp [darningref4_Merged.l0] at h⟩
 | k + 1 => by
  obtain ⟨ih0, ih1, ih2, ih3, ih4, ih5⟩ := darningref4_Merged.mono_l k
  refine ⟨?_, ?_, ?_, ?_, ?_, ?_⟩
  ·
   intro y0 y1 y2
   unfold darningref4_Merged.j0
   repeat' first
   | (with_reducible exact ih0 _ _ _)
   | (with_reducible exact ih1 _ _ _ _)
   | (with_reducible exact ih2 _ _ _)
   | (with_reducible exact ih3 _ _ _ _)
   | (with_reducible exact ih4 _ _ _)
   | (with_reducible exact ih5 _ _ _ _ _ _ _)
   | (with_reducible exact darningref4_MayBlocks.mono _ _ _)
   | (with_reducible exact darningref4_sizes.mono _ _)
   | (with_reducible exact LeO.refl _)
   | (with_reducible exact LeO.none _)
   | (with_reducible refine LeO.ite ?_ ?_)
   | (with_reducible refine LeO.bind ?_ (fun _ => ?_))
   | exact ih0 _ _ _
   | exact ih1 _ _ _ _
   | exact ih2 _ _ _
   | exact ih3 _ _ _ _
   | exact ih4 _ _ _
   | exact ih5 _ _ _ _ _ _ _
   | exact darningref4_MayBlocks.mono _ _ _
   | exact darningref4_sizes.mono _ _
   | exact LeO.none _
   | refine LeO.ite ?_ ?_
   | refine LeO.bind ?_ (fun _ => ?_)
  ·
   intro y0 y1 y2 y3
   unfold darningref4_Merged.j1
   repeat' first
   | (with_reducible exact ih0 _ _ _)
   | (with_reducible exact ih1 _ _ _ _)
   | (with_reducible exact ih2 _ _ _)
   | (with_reducible exact ih3 _ _ _ _)
   | (with_reducible exact ih4 _ _ _)
   | (with_reducible exact ih5 _ _ _ _ _ _ _)
   | (with_reducible exact darningref4_MayBlocks.mono _ _ _)
   | (with_reducible exact darningref4_sizes.mono _ _)
   | (with_reducible exact LeO.refl _)
   | (with_reducible exact LeO.none _)
   | (with_reducible refine LeO.ite ?_ ?_)
   | (with_reducible refine LeO.bind ?_ (fun _ => ?_))
   | exact ih0 _ _ _
   | exact ih1 _ _ _ _
   | exact ih2 _ _ _
   | exact ih3 _ _ _ _
   | exact ih4 _ _ _
   | exact ih5 _ _ _ _ _ _ _
   | exact darningref4_MayBlocks.mono _ _ _
   | exact darningref4_sizes.mono _ _
   | exact LeO.none _
   | refine LeO.ite ?_ ?_
   | refine LeO.bind ?_ (fun _ => ?_)
  ·
   intro y0 y1 y2
   unfold darningref4_Merged.j2
   repeat' first
   | (with_reducible exact ih0 _ _ _)
   | (with_reducible exact ih1 _ _ _ _)
   | (with_reducible exact ih2 _ _ _)
   | (with_reducible exact ih3 _ _ _ _)
   | (with_reducible exact ih4 _ _ _)
   | (with_reducible exact ih5 _ _ _ _ _ _ _)
   | (with_reducible exact darningref4_MayBlocks.mono _ _ _)
   | (with_reducible exact darningref4_sizes.mono _ _)
   | (with_reducible exact LeO.refl _)
   | (with_reducible exact LeO.none _)
   | (with_reducible refine LeO.ite ?_ ?_)
   | (with_reducible refine LeO.bind ?_ (fun _ => ?_))
   | exact ih0 _ _ _
   | exact ih1 _ _ _ _
   | exact ih2 _ _ _
   | exact ih3 _ _ _ _
   | exact ih4 _ _ _
   | exact ih5 _ _ _ _ _ _ _
   | exact darningref4_MayBlocks.mono _ _ _
   | exact darningref4_sizes.mono _ _
   | exact LeO.none _
   | refine LeO.ite ?_ ?_
   | refine LeO.bind ?_ (fun _ => ?_)
  ·
   intro y0 y1 y2 y3
   unfold darningref4_Merged.j3
   repeat' first
   | (with_reducible exact ih0 _ _ _)
   | (with_reducible exact ih1 _ _ _ _)
   | (with_reducible exact ih2 _ _ _)
   | (with_reducible exact ih3 _ _ _ _)
   | (with_reducible exact ih4 _ _ _)
   | (with_reducible exact ih5 _ _ _ _ _ _ _)
   | (with_reducible exact darningref4_MayBlocks.mono _ _ _)
   | (with_reducible exact darningref4_sizes.mono _ _)
   | (with_reducible exact LeO.refl _)
   | (with_reducible exact LeO.none _)
   | (with_reducible refine LeO.ite ?_ ?_)
   | (with_reducible refine LeO.bind ?_ (fun _ => ?_))
   | exact ih0 _ _ _
   | exact ih1 _ _ _ _
   | exact ih2 _ _ _
   | exact ih3 _ _ _ _
   | exact ih4 _ _ _
   | exact ih5 _ _ _ _ _ _ _
   | exact darningref4_MayBlocks.mono _ _ _
   | exact darningref4_sizes.mono _ _
   | exact LeO.none _
   | refine LeO.ite ?_ ?_
   | refine LeO.bind ?_ (fun _ => ?_)
  ·
   intro y0 y1 y2
   unfold darningref4_Merged.j4
   repeat' first
   | (with_reducible exact ih0 _ _ _)
   | (with_reducible exact ih1 _ _ _ _)
   | (with_reducible exact ih2 _ _ _)
   | (with_reducible exact ih3 _ _ _ _)
   | (with_reducible exact ih4 _ _ _)
   | (with_reducible exact ih5 _ _ _ _ _ _ _)
   | (with_reducible exact darningref4_MayBlocks.mono _ _ _)
   | (with_reducible exact darningref4_sizes.mono _ _)
   | (with_reducible exact LeO.refl _)
   | (with_reducible exact LeO.none _)
   | (with_reducible refine LeO.ite ?_ ?_)
   | (with_reducible refine LeO.bind ?_ (fun _ => ?_))
   | exact ih0 _ _ _
   | exact ih1 _ _ _ _
   | exact ih2 _ _ _
   | exact ih3 _ _ _ _
   | exact ih4 _ _ _
   | exact ih5 _ _ _ _ _ _ _
   | exact darningref4_MayBlocks.mono _ _ _
   | exact darningref4_sizes.mono _ _
   | exact LeO.none _
   | refine LeO.ite ?_ ?_
   | refine LeO.bind ?_ (fun _ => ?_)
  ·
   intro y0 y1 y2 y3 y4 y5 y6
   unfold darningref4_Merged.l0
   repeat' first
   | (with_reducible exact ih0 _ _ _)
   | (with_reducible exact ih1 _ _ _ _)
   | (with_reducible exact ih2 _ _ _)
   | (with_reducible exact ih3 _ _ _ _)
   | (with_reducible exact ih4 _ _ _)
   | (with_reducible exact ih5 _ _ _ _ _ _ _)
   | (with_reducible exact darningref4_MayBlocks.mono _ _ _)
   | (with_reducible exact darningref4_sizes.mono _ _)
   | (with_reducible exact LeO.refl _)
   | (with_reducible exact LeO.none _)
   | (with_reducible refine LeO.ite ?_ ?_)
   | (with_reducible refine LeO.bind ?_ (fun _ => ?_))
   | exact ih0 _ _ _
   | exact ih1 _ _ _ _
   | exact ih2 _ _ _
   | exact ih3 _ _ _ _
   | exact ih4 _ _ _
   | exact ih5 _ _ _ _ _ _ _
   | exact darningref4_MayBlocks.mono _ _ _
   | exact darningref4_sizes.mono _ _
   | exact LeO.none _
   | refine LeO.ite ?_ ?_
   | refine LeO.bind ?_ (fun _ => ?_)
theorem darningref4_Merged.mono : ∀ a0 a1 k, LeO (darningref4_Merged.f k a0 a1) (darningref4_Merged.f (k + 1) a0 a1) := by
 intro a0 a1 k
 obtain ⟨ih0, ih1, ih2, ih3, ih4, ih5⟩ := darningref4_Merged.mono_l k
 unfold darningref4_Merged.f
 repeat' first
   | (with_reducible exact ih0 _ _ _)
   | (with_reducible exact ih1 _ _ _ _)
   | (with_reducible exact ih2 _ _ _)
   | (with_reducible exact ih3 _ _ _ _)
   | (with_reducible exact ih4 _ _ _)
   | (with_reducible exact ih5 _ _ _ _ _ _ _)
   | (with_reducible exact darningref4_MayBlocks.mono _ _ _)
   | (with_reducible exact darningref4_sizes.mono _ _)
   | (with_reducible exact LeO.refl _)
   | (with_reducible exact LeO.none _)
   | (with_reducible refine LeO.ite ?_ ?_)
   | (with_reducible refine LeO.bind ?_ (fun _ => ?_))
   | exact ih0 _ _ _
   | exact ih1 _ _ _ _
   | exact ih2 _ _ _
   | exact ih3 _ _ _ _
   | exact ih4 _ _ _
   | exact ih5 _ _ _ _ _ _ _
   | exact darningref4_MayBlocks.mono _ _ _
   | exact darningref4_sizes.mono _ _
   | exact LeO.none _
   | refine LeO.ite ?_ ?_
   | refine LeO.bind ?_ (fun _ => ?_)
def darningref4_Merged.T14 : Bool × List (List Nat × List Nat) := (true, [([], []), ([], []), ([0, 1], [0, 1]), ([2], [2]), ([], []), ([], []), ([4, 5], [4, 5]), ([6], [6]), ([7], [7]), ([], []), ([8, 9], [8, 9]), ([10], [10]), ([3, 11, 3], [3, 11]), ([12, 12, 0, 1, 2, 3, 4, 5, 6, 7, 8, 9, 10, 11, 12], [12])])
def darningref4_Merged.B14 : List Nat := [0, 0, 3, 7, 0, 0, 48, 112, 240, 0, 1008, 2032, 4095, 8191]
theorem darningref4_Merged.tab14 : rtab .any (opsOf Try.f17 14) = darningref4_Merged.T14 := by kernel_rfl
theorem darningref4_Merged.bits14 : waitsOk darningref4_Merged.T14.2 darningref4_Merged.B14 = true := by kernel_rfl
set_option maxHeartbeats 8000000 in
set_option maxRecDepth 100000 in
theorem darningref4_Merged.calls (k : Nat) (A0 : Option Addr) (c0 : Nat) (l0 : List (S35)) (a1 : Int) (r1 : List (S35)) (r2 : Int) (r3 : Bool) (w : World) (hr0 : Kd.C k35 w A0 l0.length l0) (hc0 : l0.length ≤ c0) (h : darningref4_Merged.f k l0 a1 = some (r1, r2, r3)) :
  Calls Try.prog 17 #[.slice A0 l0.length c0, .int .i64 a1] w fun e w' => ∃ v0_ : Value, e = .returned (.tuple #[v0_, .int .i64 r2, .bool r3]) ∧ Kd.R k35 35 w' w.heap.size (fun _ => True) v0_ r1 ∧ Below w.heap.size w w' := by
 have hu35 := Try.underlying35
 have HR0 := Aside0.mk hr0
 have HC0 := Aside0.mk hc0
 clear hr0 hc0
 have HB := Aside0.mk (Below.refl w.heap.size w)
 have H : ((darningref4_sizes.f k l0).bind fun t403 => ((darningref4_MayBlocks.f k l0 t403).bind fun t404 => (if t404 = true then (if a1 < 0 then (darningref4_Merged.j0 k l0 a1 true) else (if a1 ≥ (l0.length : Int) then (darningref4_Merged.j0 k l0 a1 true) else (if 0 ≤ a1 then (if a1 < (l0.length : Int) then (darningref4_Merged.j0 k l0 a1 (!((rd_T35 l0 a1).f2))) else (none)) else (none)))) else (darningref4_Merged.j0 k l0 a1 true)))) = some (r1, r2, r3) := h
 clear h
 have HC3 := Aside0.mk H
 clear H
 go_enter Try.func17, Try.ntmps17
 go_upto_region 1 with (fail)
 go_cut [35] (fun v35 wc => ∃ (kq : Nat) (x35_2 : Bool), v35 = .bool x35_2 ∧ Aside0 (darningref4_Merged.j0 kq l0 a1 x35_2 = some (r1, r2, r3)) ∧ Aside0 (kq ≤ k) ∧ Aside0 (Below w.heap.size w wc))
 case first =>
  have H := HC3.out
  clear HC3
  replace H := Option.bind_eq_some_iff.mp H
  obtain ⟨t403, A40, H⟩ := H
  replace H : ((darningref4_MayBlocks.f k l0 t403).bind fun t404 => (if t404 = true then (if a1 < 0 then (darningref4_Merged.j0 k l0 a1 true) else (if a1 ≥ (l0.length : Int) then (darningref4_Merged.j0 k l0 a1 true) else (if 0 ≤ a1 then (if a1 < (l0.length : Int) then (darningref4_Merged.j0 k l0 a1 (!((rd_T35 l0 a1).f2))) else (none)) else (none)))) else (darningref4_Merged.j0 k l0 a1 true))) = some (r1, r2, r3) := H
  have A4 := Aside0.mk A40
  clear A40
  replace H := Option.bind_eq_some_iff.mp H
  obtain ⟨t404, A50, H⟩ := H
  replace H : (if t404 = true then (if a1 < 0 then (darningref4_Merged.j0 k l0 a1 true) else (if a1 ≥ (l0.length : Int) then (darningref4_Merged.j0 k l0 a1 true) else (if 0 ≤ a1 then (if a1 < (l0.length : Int) then (darningref4_Merged.j0 k l0 a1 (!((rd_T35 l0 a1).f2))) else (none)) else (none)))) else (darningref4_Merged.j0 k l0 a1 true)) = some (r1, r2, r3) := H
  have A5 := Aside0.mk A50
  clear A50
  by_cases c6 : t404 = true
  rotate_left
  ·
   replace c6 := Bool.eq_false_iff.mpr c6
   subst c6
   have H1 : (darningref4_Merged.j0 k l0 a1 true) = some (r1, r2, r3) := by rw [if_neg (show ¬ (false = true) by decide)] at H; exact H
   clear H
   have H := H1
   clear H1
   have H' := Aside0.mk H
   clear H
   go_wp2_with (first | ((with_reducible refine gate_callee (f := 60) rfl ?_); refine goesL_ (some 15) rfl rfl Try.func60 (by kernel_rfl) rfl #[.slice A0 l0.length c0] rfl (by (try simp only [qj, qk, ql]); first | done | rfl | (simp only [qm, qn]; rfl)) ?_; (with_reducible refine (darningref4_sizes.calls k _ _ l0 t403 _ ?side1 ?side2 A4.out).mono ?_); (case side1 => exact zc (Kd.C_below HR0.out HB.out)); (case side2 => exact HC0.out); rintro e w17 ⟨rfl, hb⟩; refine ⟨_, rfl, ?_⟩; have n0_ := zb HB hb; replace HB := n0_; clear n0_; (try clear hb)) | ((with_reducible refine gate_callee (f := 21) rfl ?_); refine goesL_ (some 16) rfl rfl Try.func21 (by kernel_rfl) rfl #[.slice A0 l0.length c0, .int .i64 t403] rfl (by (try simp only [qj, qk, ql]); first | done | rfl | (simp only [qm, qn]; rfl)) ?_; (with_reducible refine (darningref4_MayBlocks.calls k _ _ l0 t403 false _ ?side1 ?side2 A5.out).mono ?_); (case side1 => exact zc (Kd.C_below HR0.out HB.out)); (case side2 => exact HC0.out); rintro e w18 ⟨rfl, hb⟩; refine ⟨_, rfl, ?_⟩; have n0_ := zb HB hb; replace HB := n0_; clear n0_; (try clear hb)))
   go_meet
   case rel => exact ⟨_, (true), (by first | rfl | (simp; done) | (simp [*]; done)), H', ⟨by first | omega | exact Nat.le_refl _⟩, ⟨zB HB⟩⟩
  subst c6
  have H1 : (if a1 < 0 then (darningref4_Merged.j0 k l0 a1 true) else (if a1 ≥ (l0.length : Int) then (darningref4_Merged.j0 k l0 a1 true) else (if 0 ≤ a1 then (if a1 < (l0.length : Int) then (darningref4_Merged.j0 k l0 a1 (!((rd_T35 l0 a1).f2))) else (none)) else (none)))) = some (r1, r2, r3) := by rw [if_pos rfl] at H; exact H
  clear H
  have H := H1
  clear H1
  by_cases c7 : a1 < 0
  ·
   rw [if_pos c7] at H
   have c7b0 : decide (a1 < 0) = true := decide_eq_true c7
   clear c7
   (first | rw [c7b0] | (simp only [i64_w, i32_w]; rw [c7b0]) | skip)
   have H' := Aside0.mk H
   clear H
   go_wp2_with (first | ((with_reducible refine gate_callee (f := 60) rfl ?_); refine goesL_ (some 15) rfl rfl Try.func60 (by kernel_rfl) rfl #[.slice A0 l0.length c0] rfl (by (try simp only [qj, qk, ql]); first | done | rfl | (simp only [qm, qn]; rfl)) ?_; (with_reducible refine (darningref4_sizes.calls k _ _ l0 t403 _ ?side1 ?side2 A4.out).mono ?_); (case side1 => exact zc (Kd.C_below HR0.out HB.out)); (case side2 => exact HC0.out); rintro e w8 ⟨rfl, hb⟩; refine ⟨_, rfl, ?_⟩; have n0_ := zb HB hb; replace HB := n0_; clear n0_; (try clear hb)) | ((with_reducible refine gate_callee (f := 21) rfl ?_); refine goesL_ (some 16) rfl rfl Try.func21 (by kernel_rfl) rfl #[.slice A0 l0.length c0, .int .i64 t403] rfl (by (try simp only [qj, qk, ql]); first | done | rfl | (simp only [qm, qn]; rfl)) ?_; (with_reducible refine (darningref4_MayBlocks.calls k _ _ l0 t403 true _ ?side1 ?side2 A5.out).mono ?_); (case side1 => exact zc (Kd.C_below HR0.out HB.out)); (case side2 => exact HC0.out); rintro e w9 ⟨rfl, hb⟩; refine ⟨_, rfl, ?_⟩; have n0_ := zb HB hb; replace HB := n0_; clear n0_; (try clear hb)))
   go_meet
   case rel => exact ⟨_, (true), (by first | rfl | (simp; done) | (simp [*]; done)), H', ⟨by first | omega | exact Nat.le_refl _⟩, ⟨zB HB⟩⟩
  rw [if_neg c7] at H
  have c7b0 : decide (a1 < 0) = false := decide_eq_false c7
  clear c7
  (first | rw [c7b0] | (simp only [i64_w, i32_w]; rw [c7b0]) | skip)
  by_cases c10 : a1 ≥ (l0.length : Int)
  ·
   rw [if_pos c10] at H
   have c10b0 : decide ((l0.length : Int) ≤ a1) = true := decide_eq_true c10
   clear c10
   have H' := Aside0.mk H
   clear H
   go_wp2_with (first | ((with_reducible refine gate_callee (f := 60) rfl ?_); refine goesL_ (some 15) rfl rfl Try.func60 (by kernel_rfl) rfl #[.slice A0 l0.length c0] rfl (by (try simp only [qj, qk, ql]); first | done | rfl | (simp only [qm, qn]; rfl)) ?_; (with_reducible refine (darningref4_sizes.calls k _ _ l0 t403 _ ?side1 ?side2 A4.out).mono ?_); (case side1 => exact zc (Kd.C_below HR0.out HB.out)); (case side2 => exact HC0.out); rintro e w11 ⟨rfl, hb⟩; refine ⟨_, rfl, ?_⟩; have n0_ := zb HB hb; replace HB := n0_; clear n0_; (try clear hb)) | ((with_reducible refine gate_callee (f := 21) rfl ?_); refine goesL_ (some 16) rfl rfl Try.func21 (by kernel_rfl) rfl #[.slice A0 l0.length c0, .int .i64 t403] rfl (by (try simp only [qj, qk, ql]); first | done | rfl | (simp only [qm, qn]; rfl)) ?_; (with_reducible refine (darningref4_MayBlocks.calls k _ _ l0 t403 true _ ?side1 ?side2 A5.out).mono ?_); (case side1 => exact zc (Kd.C_below HR0.out HB.out)); (case side2 => exact HC0.out); rintro e w12 ⟨rfl, hb⟩; refine ⟨_, rfl, ?_⟩; have n0_ := zb HB hb; replace HB := n0_; clear n0_; (try clear hb)))
   go_meet
   case rel => exact ⟨_, (true), (by first | rfl | (simp; done) | (simp [*]; done)), H', ⟨by first | omega | exact Nat.le_refl _⟩, ⟨zB HB⟩⟩
  rw [if_neg c10] at H
  have c10b0 : decide ((l0.length : Int) ≤ a1) = false := decide_eq_false c10
  clear c10
  by_cases c13 : 0 ≤ a1
  rotate_left
  ·
   rw [if_neg c13] at H
   exact absurd H (by simp)
  rw [if_pos c13] at H
  have c13b0 : decide (0 ≤ a1) = true := decide_eq_true c13
  clear c13
  by_cases c14 : a1 < (l0.length : Int)
  rotate_left
  ·
   rw [if_neg c14] at H
   exact absurd H (by simp)
  rw [if_pos c14] at H
  have c14b0 : decide (a1 < (l0.length : Int)) = true := decide_eq_true c14
  clear c14
  have H' := Aside0.mk H
  clear H
  go_wp2_with (first | ((with_reducible refine gate_callee (f := 60) rfl ?_); refine goesL_ (some 15) rfl rfl Try.func60 (by kernel_rfl) rfl #[.slice A0 l0.length c0] rfl (by (try simp only [qj, qk, ql]); first | done | rfl | (simp only [qm, qn]; rfl)) ?_; (with_reducible refine (darningref4_sizes.calls k _ _ l0 t403 _ ?side1 ?side2 A4.out).mono ?_); (case side1 => exact zc (Kd.C_below HR0.out HB.out)); (case side2 => exact HC0.out); rintro e w15 ⟨rfl, hb⟩; refine ⟨_, rfl, ?_⟩; have n0_ := zb HB hb; replace HB := n0_; clear n0_; (try clear hb)) | ((with_reducible refine gate_callee (f := 21) rfl ?_); refine goesL_ (some 16) rfl rfl Try.func21 (by kernel_rfl) rfl #[.slice A0 l0.length c0, .int .i64 t403] rfl (by (try simp only [qj, qk, ql]); first | done | rfl | (simp only [qm, qn]; rfl)) ?_; (with_reducible refine (darningref4_MayBlocks.calls k _ _ l0 t403 true _ ?side1 ?side2 A5.out).mono ?_); (case side1 => exact zc (Kd.C_below HR0.out HB.out)); (case side2 => exact HC0.out); rintro e w16 ⟨rfl, hb⟩; refine ⟨_, rfl, ?_⟩; have n0_ := zb HB hb; replace HB := n0_; clear n0_; (try clear hb); have p405 : 0 ≤ (a1 : Int) := zu; have q405 : a1 < (l0.length : Int) := zu; obtain ⟨ad405, e405, hx405_0, hx405_1, hx405_2⟩ := at_T35 HR0.out a1 p405 q405; cases e405; replace hx405_0 := zw HB hx405_0; replace hx405_1 := zw HB hx405_1; replace hx405_2 := zw HB hx405_2; replace p405 := eq_true p405; replace q405 := eq_true q405))
  go_meet
  case rel => exact ⟨_, (!((rd_T35 l0 a1).f2)), (by first | rfl | (simp; done) | (simp [*]; done)), H', ⟨by first | omega | exact Nat.le_refl _⟩, ⟨zB HB⟩⟩
 clear HC3
 try clear c1
 try clear c2
 try clear p2
 try clear p4
 try clear q4
 try clear hx4
 try clear c6
 try clear c7
 try clear c7b0
 try clear c10
 try clear c10b0
 try clear c13
 try clear c13b0
 try clear c14
 try clear c14b0
 try clear c17
 try clear hx405_0
 try clear hx405_1
 try clear hx405_2
 try clear p405
 try clear q405
 obtain ⟨kq, x35_2, rfl, HA, HJ2, HB⟩ := hcut
 cases kq with
 | zero => exact absurd HA.out (by simp [darningref4_Merged.j0])
 | succ kj2 =>
  have H := HA.out
  clear HA
  simp only [darningref4_Merged.j0] at H
  by_cases c19 : x35_2 = true
  ·
   subst c19
   have H1 : (some (([] : List (S35)), 0, false)) = some (r1, r2, r3) := by rw [if_pos rfl] at H; exact H
   clear H
   have H := H1
   clear H1
   simp only [Option.some.injEq, Prod.mk.injEq] at H
   obtain ⟨rfl, rfl, rfl⟩ := H
   go_wp2
   go_ret3
   exact ⟨_, by first | rfl | (simp [errW_none, errW_some] <;> rfl) | (simp [*, errW_none, errW_some] <;> rfl), by first | exact Kd.R_nil _ _ _ _ _ | exact Kd.N_nil _ _ _ _ _ | exact Kd.V_nil _ _ _ _ _ | exact Kd.Q_nil _ _ _ _ _ | exact Kd.S_nil _ _ _ _ _, zB HB⟩
  replace c19 := Bool.eq_false_iff.mpr c19
  subst c19
  have H1 : (if a1 > 0 then (if 0 ≤ (wrap64 (a1 - 1)) then (if (wrap64 (a1 - 1)) < (l0.length : Int) then (darningref4_Merged.j1 kj2 l0 a1 (wrap64 (a1 + 1)) (!((rd_T35 l0 (wrap64 (a1 - 1))).f2))) else (none)) else (none)) else (darningref4_Merged.j1 kj2 l0 a1 (wrap64 (a1 + 1)) false)) = some (r1, r2, r3) := by rw [if_neg (show ¬ (false = true) by decide)] at H; exact H
  clear H
  have H := H1
  clear H1
  have HC20 := Aside0.mk H
  clear H
  go_upto_region 4 with (fail)
  go_cut [49] (fun v49 wc => ∃ (kq : Nat) (x49_19 : Bool), v49 = .bool x49_19 ∧ Aside0 (darningref4_Merged.j1 kq l0 a1 (wrap64 (a1 + 1)) x49_19 = some (r1, r2, r3)) ∧ Aside0 (kq ≤ kj2) ∧ Aside0 (Below w.heap.size w wc))
  case first =>
   have H := HC20.out
   clear HC20
   by_cases c21 : a1 > 0
   rotate_left
   ·
    rw [if_neg c21] at H
    have c21b0 : decide (0 < a1) = false := decide_eq_false c21
    clear c21
    (first | rw [c21b0] | (simp only [i64_w, i32_w]; rw [c21b0]) | skip)
    have H' := Aside0.mk H
    clear H
    go_wp2
    go_meet
    case rel => exact ⟨_, (false), (by first | rfl | (simp; done) | (simp [*]; done)), (by first | exact H' | ((try rw [hji22]); exact H')), ⟨by have := HJ2.out; first | omega | exact Nat.le_refl _⟩, ⟨zB HB⟩⟩
   rw [if_pos c21] at H
   have c21b0 : decide (0 < a1) = true := decide_eq_true c21
   clear c21
   (first | rw [c21b0] | (simp only [i64_w, i32_w]; rw [c21b0]) | skip)
   obtain ⟨ji22, hji22⟩ : ∃ j_ : Int, (wrap64 (a1 - 1)) = j_ := ⟨_, rfl⟩
   replace H : (if 0 ≤ (ji22) then (if (ji22) < (l0.length : Int) then (darningref4_Merged.j1 kj2 l0 a1 (wrap64 (a1 + 1)) (!((rd_T35 l0 (ji22)).f2))) else (none)) else (none)) = some (r1, r2, r3) := by first | (rw [hji22] at H; exact H) | (simp only [hji22] at H ⊢; exact H)
   have hji22w : (IntKind.i64.wrap (a1 - 1)) = ji22 := (i64_w _).trans hji22
   by_cases c23 : 0 ≤ (ji22)
   rotate_left
   ·
    rw [if_neg c23] at H
    exact absurd H (by simp)
   rw [if_pos c23] at H
   have c23b0 : decide (0 ≤ (ji22)) = true := decide_eq_true c23
   clear c23
   by_cases c24 : (ji22) < (l0.length : Int)
   rotate_left
   ·
    rw [if_neg c24] at H
    exact absurd H (by simp)
   rw [if_pos c24] at H
   have c24b0 : decide ((ji22) < (l0.length : Int)) = true := decide_eq_true c24
   clear c24
   have H' := Aside0.mk H
   clear H
   have p406 : 0 ≤ ((ji22) : Int) := zu
   have q406 : (ji22) < (l0.length : Int) := zu
   obtain ⟨ad406, e406, hx406_0, hx406_1, hx406_2⟩ := at_T35 HR0.out (ji22) p406 q406
   cases e406
   replace hx406_0 := zw HB hx406_0
   replace hx406_1 := zw HB hx406_1
   replace hx406_2 := zw HB hx406_2
   replace p406 := eq_true p406
   replace q406 := eq_true q406
   go_wp2
   go_meet
   case rel => exact ⟨_, (!((rd_T35 l0 (ji22)).f2)), (by first | rfl | (simp; done) | (simp only [← hji22] <;> (first | rfl | simp)) | (simp [*]; done)), (by first | exact H' | (simp only [hji22]; exact H')), ⟨by have := HJ2.out; first | omega | exact Nat.le_refl _⟩, ⟨zB HB⟩⟩
  clear HC20
  try clear c1
  try clear c2
  try clear p2
  try clear p4
  try clear q4
  try clear hx4
  try clear c6
  try clear p6
  try clear c7
  try clear c7b0
  try clear c10
  try clear c10b0
  try clear c13
  try clear c13b0
  try clear c14
  try clear c14b0
  try clear c17
  try clear c19
  try clear c21
  try clear c21b0
  try clear c23
  try clear c23b0
  try clear c24
  try clear c24b0
  try clear hx405_0
  try clear hx405_1
  try clear hx405_2
  try clear hx406_0
  try clear hx406_1
  try clear hx406_2
  try clear p2
  try clear p4
  try clear p405
  try clear p406
  try clear q4
  try clear q405
  try clear q406
  obtain ⟨kq, x49_19, rfl, HA, HJ19, HB⟩ := hcut
  cases kq with
  | zero => exact absurd HA.out (by simp [darningref4_Merged.j1])
  | succ kj19 =>
   have H := HA.out
   clear HA
   simp only [darningref4_Merged.j1] at H
   have HC25 := Aside0.mk H
   clear H
   go_upto_if 49 with (fail)
   go_cut [7] (fun v7 wc => ∃ (kq : Nat) (x7_24 : Int), v7 = .int .i64 x7_24 ∧ Aside0 (darningref4_Merged.j2 kq l0 x7_24 (wrap64 (a1 + 1)) = some (r1, r2, r3)) ∧ Aside0 (kq ≤ kj19) ∧ Aside0 (Below w.heap.size w wc))
   case first =>
    have H := HC25.out
    clear HC25
    by_cases c26 : x49_19 = true
    ·
     subst c26
     have H1 : (darningref4_Merged.j2 kj19 l0 (wrap64 (a1 - 1)) (wrap64 (a1 + 1))) = some (r1, r2, r3) := by rw [if_pos rfl] at H; exact H
     clear H
     have H := H1
     clear H1
     have H' := Aside0.mk H
     clear H
     go_wp2
     go_meet
     case rel => exact ⟨_, (wrap64 (a1 - 1)), (by first | rfl | (simp; done) | (simp [*]; done)), (by first | exact H' | ((try rw [hji22]); exact H')), ⟨by have := HJ2.out; have := HJ19.out; first | omega | exact Nat.le_refl _⟩, ⟨zB HB⟩⟩
    replace c26 := Bool.eq_false_iff.mpr c26
    subst c26
    have H1 : (darningref4_Merged.j2 kj19 l0 a1 (wrap64 (a1 + 1))) = some (r1, r2, r3) := by rw [if_neg (show ¬ (false = true) by decide)] at H; exact H
    clear H
    have H := H1
    clear H1
    have H' := Aside0.mk H
    clear H
    go_wp2
    go_meet
    case rel => exact ⟨_, (a1), (by first | rfl | (simp; done) | (simp [*]; done)), (by first | exact H' | ((try rw [hji22]); exact H')), ⟨by have := HJ2.out; have := HJ19.out; first | omega | exact Nat.le_refl _⟩, ⟨zB HB⟩⟩
   clear HC25
   try clear c1
   try clear c2
   try clear p2
   try clear p4
   try clear q4
   try clear hx4
   try clear c6
   try clear p6
   try clear c7
   try clear c7b0
   try clear c10
   try clear c10b0
   try clear c13
   try clear c13b0
   try clear c14
   try clear c14b0
   try clear c17
   try clear c19
   try clear c21
   try clear c21b0
   try clear c23
   try clear c23b0
   try clear c24
   try clear c24b0
   try clear c26
   try clear hx405_0
   try clear hx405_1
   try clear hx405_2
   try clear hx406_0
   try clear hx406_1
   try clear hx406_2
   try clear p2
   try clear p4
   try clear p405
   try clear p406
   try clear p6
   try clear q4
   try clear q405
   try clear q406
   obtain ⟨kq, x7_24, rfl, HA, HJ24, HB⟩ := hcut
   cases kq with
   | zero => exact absurd HA.out (by simp [darningref4_Merged.j2])
   | succ kj24 =>
    have H := HA.out
    clear HA
    simp only [darningref4_Merged.j2] at H
    have HC27 := Aside0.mk H
    clear H
    go_upto_region 6 with (fail)
    go_cut [63] (fun v63 wc => ∃ (kq : Nat) (x63_26 : Bool), v63 = .bool x63_26 ∧ Aside0 (darningref4_Merged.j3 kq l0 x7_24 (wrap64 (a1 + 1)) x63_26 = some (r1, r2, r3)) ∧ Aside0 (kq ≤ kj24) ∧ Aside0 (Below w.heap.size w wc))
    case first =>
     have H := HC27.out
     clear HC27
     by_cases c28 : (wrap64 (a1 + 1)) < (l0.length : Int)
     rotate_left
     ·
      rw [if_neg c28] at H
      have c28b0 : decide ((wrap64 (a1 + 1)) < (l0.length : Int)) = false := decide_eq_false c28
      clear c28
      (first | rw [c28b0] | (simp only [i64_w, i32_w]; rw [c28b0]) | skip)
      have H' := Aside0.mk H
      clear H
      go_wp2
      go_meet
      case rel => exact ⟨_, (false), (by first | rfl | (simp; done) | (simp [*]; done)), (by first | exact H' | ((try rw [hji22]); (try rw [hji29]); exact H')), ⟨by have := HJ2.out; have := HJ19.out; have := HJ24.out; first | omega | exact Nat.le_refl _⟩, ⟨zB HB⟩⟩
     rw [if_pos c28] at H
     have c28b0 : decide ((wrap64 (a1 + 1)) < (l0.length : Int)) = true := decide_eq_true c28
     clear c28
     (first | rw [c28b0] | (simp only [i64_w, i32_w]; rw [c28b0]) | skip)
     obtain ⟨ji29, hji29⟩ : ∃ j_ : Int, (wrap64 (a1 + 1)) = j_ := ⟨_, rfl⟩
     replace H : (if 0 ≤ (ji29) then (darningref4_Merged.j3 kj24 l0 x7_24 (ji29) (!((rd_T35 l0 (ji29)).f2))) else (none)) = some (r1, r2, r3) := by first | (rw [hji29] at H; exact H) | (simp only [hji29] at H ⊢; exact H)
     (try rw [hji29] at c28b0)
     have hji29w : (IntKind.i64.wrap (a1 + 1)) = ji29 := (i64_w _).trans hji29
     by_cases c30 : 0 ≤ (ji29)
     rotate_left
     ·
      rw [if_neg c30] at H
      exact absurd H (by simp)
     rw [if_pos c30] at H
     have c30b0 : decide (0 ≤ (ji29)) = true := decide_eq_true c30
     clear c30
     have H' := Aside0.mk H
     clear H
     have p407 : 0 ≤ ((ji29) : Int) := zu
     have q407 : (ji29) < (l0.length : Int) := zu
     obtain ⟨ad407, e407, hx407_0, hx407_1, hx407_2⟩ := at_T35 HR0.out (ji29) p407 q407
     cases e407
     replace hx407_0 := zw HB hx407_0
     replace hx407_1 := zw HB hx407_1
     replace hx407_2 := zw HB hx407_2
     replace p407 := eq_true p407
     replace q407 := eq_true q407
     go_wp2
     go_meet
     case rel => exact ⟨_, (!((rd_T35 l0 (ji29)).f2)), (by first | rfl | (simp; done) | (simp only [← hji29] <;> (first | rfl | simp)) | (simp [*]; done)), (by first | exact H' | (simp only [hji29]; exact H')), ⟨by have := HJ2.out; have := HJ19.out; have := HJ24.out; first | omega | exact Nat.le_refl _⟩, ⟨zB HB⟩⟩
    clear HC27
    try clear c1
    try clear c2
    try clear p2
    try clear c3
    try clear p4
    try clear q4
    try clear hx4
    try clear c6
    try clear p6
    try clear c7
    try clear c7b0
    try clear c10
    try clear c10b0
    try clear c13
    try clear c13b0
    try clear c14
    try clear c14b0
    try clear c17
    try clear c19
    try clear c21
    try clear c21b0
    try clear c23
    try clear c23b0
    try clear c24
    try clear c24b0
    try clear c26
    try clear c28
    try clear c28b0
    try clear c30
    try clear c30b0
    try clear hx405_0
    try clear hx405_1
    try clear hx405_2
    try clear hx406_0
    try clear hx406_1
    try clear hx406_2
    try clear hx407_0
    try clear hx407_1
    try clear hx407_2
    try clear p2
    try clear p4
    try clear p405
    try clear p406
    try clear p407
    try clear p6
    try clear q4
    try clear q405
    try clear q406
    try clear q407
    obtain ⟨kq, x63_26, rfl, HA, HJ26, HB⟩ := hcut
    cases kq with
    | zero => exact absurd HA.out (by simp [darningref4_Merged.j3])
    | succ kj26 =>
     have H := HA.out
     clear HA
     simp only [darningref4_Merged.j3] at H
     have HC31 := Aside0.mk H
     clear H
     go_upto_if 63 with (fail)
     go_cut [8] (fun v8 wc => ∃ (kq : Nat) (x8_30 : Int), v8 = .int .i64 x8_30 ∧ Aside0 (darningref4_Merged.j4 kq l0 x7_24 x8_30 = some (r1, r2, r3)) ∧ Aside0 (kq ≤ kj26) ∧ Aside0 (Below w.heap.size w wc))
     case first =>
      have H := HC31.out
      clear HC31
      by_cases c32 : x63_26 = true
      ·
       subst c32
       have H1 : (darningref4_Merged.j4 kj26 l0 x7_24 (wrap64 ((wrap64 (a1 + 1)) + 1))) = some (r1, r2, r3) := by rw [if_pos rfl] at H; exact H
       clear H
       have H := H1
       clear H1
       have H' := Aside0.mk H
       clear H
       go_wp2
       go_meet
       case rel => exact ⟨_, (wrap64 ((wrap64 (a1 + 1)) + 1)), (by first | rfl | (simp; done) | (simp [*]; done)), (by first | exact H' | ((try rw [hji22]); (try rw [hji29]); exact H')), ⟨by have := HJ2.out; have := HJ19.out; have := HJ24.out; have := HJ26.out; first | omega | exact Nat.le_refl _⟩, ⟨zB HB⟩⟩
      replace c32 := Bool.eq_false_iff.mpr c32
      subst c32
      have H1 : (darningref4_Merged.j4 kj26 l0 x7_24 (wrap64 (a1 + 1))) = some (r1, r2, r3) := by rw [if_neg (show ¬ (false = true) by decide)] at H; exact H
      clear H
      have H := H1
      clear H1
      have H' := Aside0.mk H
      clear H
      go_wp2
      go_meet
      case rel => exact ⟨_, ((wrap64 (a1 + 1))), (by first | rfl | (simp; done) | (simp [*]; done)), (by first | exact H' | ((try rw [hji22]); (try rw [hji29]); exact H')), ⟨by have := HJ2.out; have := HJ19.out; have := HJ24.out; have := HJ26.out; first | omega | exact Nat.le_refl _⟩, ⟨zB HB⟩⟩
     clear HC31
     try clear c1
     try clear c2
     try clear p2
     try clear c3
     try clear p4
     try clear q4
     try clear hx4
     try clear c6
     try clear p6
     try clear c7
     try clear c7b0
     try clear c10
     try clear c10b0
     try clear c13
     try clear c13b0
     try clear c14
     try clear c14b0
     try clear c17
     try clear c19
     try clear c21
     try clear c21b0
     try clear c23
     try clear c23b0
     try clear c24
     try clear c24b0
     try clear c26
     try clear c28
     try clear c28b0
     try clear c30
     try clear c30b0
     try clear c32
     try clear hx405_0
     try clear hx405_1
     try clear hx405_2
     try clear hx406_0
     try clear hx406_1
     try clear hx406_2
     try clear hx407_0
     try clear hx407_1
     try clear hx407_2
     try clear p2
     try clear p4
     try clear p405
     try clear p406
     try clear p407
     try clear p6
     try clear q4
     try clear q405
     try clear q406
     try clear q407
     obtain ⟨kq, x8_30, rfl, HA, HJ30, HB⟩ := hcut
     cases kq with
     | zero => exact absurd HA.out (by simp [darningref4_Merged.j4])
     | succ kj30 =>
      have H := HA.out
      clear HA
      simp only [darningref4_Merged.j4] at H
      by_cases c33 : 0 ≤ x7_24
      rotate_left
      ·
       rw [if_neg c33] at H
       exact absurd H (by simp)
      rw [if_pos c33] at H
      have c33b0 := eq_true c33
      have c33b1 : decide (0 ≤ x7_24) = true := decide_eq_true c33
      clear c33
      by_cases c34 : x7_24 ≤ x8_30
      rotate_left
      ·
       rw [if_neg c34] at H
       exact absurd H (by simp)
      rw [if_pos c34] at H
      have c34b0 := eq_true c34
      have c34b1 : decide (x7_24 ≤ x8_30) = true := decide_eq_true c34
      clear c34
      by_cases c35 : x8_30 ≤ (l0.length : Int)
      rotate_left
      ·
       rw [if_neg c35] at H
       exact absurd H (by simp)
      rw [if_pos c35] at H
      have c35b0 := eq_true c35
      have c35b1 : decide (x8_30 ≤ (l0.length : Int)) = true := decide_eq_true c35
      clear c35
      obtain ⟨y408, hy408⟩ : ∃ y_ : List (S35), y_ = ((l0.take (x8_30 : Int).toNat).drop (x7_24 : Int).toNat) := ⟨_, rfl⟩
      replace H : (darningref4_Merged.l0 kj30 l0 x7_24 x8_30 0 y408 (y408.length : Int) 0) = some (r1, r2, r3) := by first | (rw [hy408]; with_reducible exact H) | (have H2_ := (Option.bind_some _ _).symm.trans H; rw [hy408]; with_reducible exact H2_) | (have H2_ := (Option.bind_some _ _).symm.trans H; with_reducible exact H2_) | with_reducible exact H | (rw [hy408]; exact H) | exact H
      have Ny408 := Aside0.mk hy408
      clear hy408
      have H' := Aside0.mk H
      clear H
      have q36 : (x8_30 : Int) ≤ ((l0.length : Int) : Int) := zu
      obtain ⟨i036, hi036, _, hsz36, _⟩ := info_parts info35
      have hroom36 : l0.length ≤ c0 := HC0.out
      have hC36 : Kd.C k35 _ A0 l0.length l0 := HR0.out
      have ql36 : (x7_24 : Int) ≤ (x8_30 : Int) := zu
      have q036 : (0 : Int) ≤ (x7_24 : Int) := zu
      have hcut36 := cut_mid (P := Try.prog) 22 35 .i64 .i64 Try.underlying22 hi036 3 hsz36 A0 l0.length c0 x7_24 x8_30 q036 ql36 q36 hroom36
      have hr36 := Kd.C_mid (lo := (x7_24 : Int).toNat) (hi := (x8_30 : Int).toNat) (c := c0) hC36 (by omega) (by omega) hroom36
      obtain ⟨A36, hA36⟩ : ∃ A1, A1 = (if c0 = (x7_24 : Int).toNat then A0 else (A0 : Option Addr).map (·.add ((x7_24 : Int).toNat * 3))) := ⟨_, rfl⟩
      obtain ⟨c36, hc36⟩ : ∃ c1, c1 = c0 - (x7_24 : Int).toNat := ⟨_, rfl⟩
      have hy36 : y408.length = (x8_30 : Int).toNat - (x7_24 : Int).toNat := (by rw [Ny408.out, qm, qn] <;> omega)
      rw [show ((l0).take (x8_30 : Int).toNat).drop (x7_24 : Int).toNat = y408 from Ny408.out.symm] at hr36
      replace hr36 : Kd.C k35 _ A36 y408.length y408 := (by rw [hA36]; exact hr36)
      rw [← hy36, ← hA36, ← hc36] at hcut36
      have HR411 := Aside0.mk hr36
      have HC411 := Aside0.mk (show y408.length ≤ c36 from by rw [hy36, hc36]; exact Nat.sub_le_sub_right (Nat.le_trans (by omega) hroom36) _)
      clear hr36 hC36 hroom36 hi036 hsz36 hc36
      have KY36 := Aside0.mk hy36
      have KA36 := Aside0.mk hA36
      clear hy36 hA36
      replace q36 := eq_true q36
      go_wp2
      go_loopg [9, 71] kj30 (fun kq v9 v71 w' => ∃ (x9_6 : Int) (x71_6 : Int), v9 = .int .i64 x9_6 ∧ v71 = .int .i64 x71_6 ∧ Aside0 (darningref4_Merged.l0 kq l0 x7_24 x8_30 x9_6 y408 (y408.length : Int) x71_6 = some (r1, r2, r3)) ∧ Aside0 (kq ≤ kj30) ∧ Aside0 (Below w.heap.size w w'))
      case atStart => exact ⟨(0), (0), (by first | rfl | (simp; done) | (simp [*]; done)), (by first | rfl | (simp; done) | (simp [*]; done)), H', ⟨Nat.le_refl _⟩, ⟨zB HB⟩⟩
      case round =>
       clear H'
       try clear c1
       try clear c2
       try clear p2
       try clear c3
       try clear q3
       try clear p4
       try clear q4
       try clear hx4
       try clear c6
       try clear p6
       try clear c7
       try clear c7b0
       try clear c10
       try clear c10b0
       try clear c13
       try clear c13b0
       try clear c14
       try clear c14b0
       try clear c17
       try clear c19
       try clear c21
       try clear c21b0
       try clear c23
       try clear c23b0
       try clear c24
       try clear c24b0
       try clear c26
       try clear c28
       try clear c28b0
       try clear c30
       try clear c30b0
       try clear c32
       try clear c33
       try clear c33b0
       try clear c33b1
       try clear c34
       try clear c34b0
       try clear c34b1
       try clear c35
       try clear c35b0
       try clear c35b1
       try clear c36
       try clear q36
       try clear hx405_0
       try clear hx405_1
       try clear hx405_2
       try clear hx406_0
       try clear hx406_1
       try clear hx406_2
       try clear hx407_0
       try clear hx407_1
       try clear hx407_2
       try clear p2
       try clear p4
       try clear p405
       try clear p406
       try clear p407
       try clear p6
       try clear q036
       try clear q36
       try clear q4
       try clear q405
       try clear q406
       try clear q407
       obtain ⟨x9_6, x71_6, rfl, rfl, HA, HK6, HB⟩ := hrel
       cases gk with
       | zero => exact absurd HA.out (by simp [darningref4_Merged.l0])
       | succ k6 =>
        have H := HA.out
        clear HA
        simp only [darningref4_Merged.l0] at H
        by_cases c37 : x71_6 < (y408.length : Int)
        ·
         rw [if_pos c37] at H
         have c37b0 : decide (x71_6 < (y408.length : Int)) = true := decide_eq_true c37
         clear c37
         by_cases c38 : 0 ≤ x71_6
         rotate_left
         ·
          rw [if_neg c38] at H
          exact absurd H (by simp)
         rw [if_pos c38] at H
         have c38b0 : decide (0 ≤ x71_6) = true := decide_eq_true c38
         clear c38
         by_cases c39 : x71_6 < (y408.length : Int)
         rotate_left
         ·
          rw [if_neg c39] at H
          exact absurd H (by simp)
         rw [if_pos c39] at H
         have c39b0 : decide (x71_6 < (y408.length : Int)) = true := decide_eq_true c39
         clear c39
         have H' := Aside0.mk H
         clear H
         have p412 : 0 ≤ (x71_6 : Int) := zu
         have q412 : x71_6 < (y408.length : Int) := zu
         obtain ⟨ad412, e412, hx412_0, hx412_1, hx412_2⟩ := at_T35 HR411.out x71_6 p412 q412
         cases e412
         replace hx412_0 := zw HB hx412_0
         replace hx412_1 := zw HB hx412_1
         replace hx412_2 := zw HB hx412_2
         replace p412 := eq_true p412
         replace q412 := eq_true q412
         go_wp2_with (first | ((with_reducible refine gate_dst (N := 11) rfl ?_); (try (refine gate_guard (by rfl) ?_; dsimp only)); refine box_event ?hg (N := 11) ?hd (cs := #[.int .i64 0, .int .i64 0, .bool false]) (t := 35) ?hr ?_; (case hd => rfl); (case hg => rfl); (case hr => first | (go_simp; done) | (go_simp; rfl)); intro gb413 hg w40 hbox hb; have n0_ := zb HB hb; have n1_ := Aside0.mk (hbox); have n2_ := Aside0.mk ((by rw [hg]; exact (below_size (zB HB)) : w.heap.size ≤ gb413)); have n3_ := Aside0.mk ((by rw [hg]; exact (below_size (zB HB)) : w.heap.size ≤ gb413)); clear HB; have HB := n0_; have BK413 := n1_; have GW413 := n2_; have GE413 := n3_; clear n0_ n1_ n2_ n3_; clear hb hbox hg; have hcz41_0 : w40.cell? ⟨gb413, 0, none⟩ = some (.int .i64 0) := (blk_cell BK413.out 0).trans rfl; have hcz41_1 : w40.cell? ⟨gb413, 1, none⟩ = some (.int .i64 0) := (blk_cell BK413.out 1).trans rfl; have hcz41_2 : w40.cell? ⟨gb413, 2, none⟩ = some (.bool false) := (blk_cell BK413.out 2).trans rfl; have hfz41_0 := blk_frozen BK413.out 0; have hfz41_1 := blk_frozen BK413.out 1; have hfz41_2 := blk_frozen BK413.out 2))
         go_roundg k6
         case measure => have := HJ2.out; have := HJ19.out; have := HJ24.out; have := HJ26.out; have := HJ30.out; have := HK6.out; omega
         case rel => exact ⟨(wrap64 (x9_6 + ((rd_T35 y408 x71_6).f1))), (wrap64 (x71_6 + 1)), (by first | rfl | (simp; done) | (simp [*]; done)), (by first | rfl | (simp; done) | (simp [*]; done)), (by first | exact H' | ((try rw [hji22]); (try rw [hji29]); exact H')), ⟨by have := HJ2.out; have := HJ19.out; have := HJ24.out; have := HJ26.out; have := HJ30.out; have := HK6.out; omega⟩, ⟨by repeat (first | (with_reducible first | exact HB.out | apply qd | apply qe | apply qf | refine below_set ?_ GE413.out) | exact HB.out)⟩⟩
        rw [if_neg c37] at H
        have c37b0 : decide (x71_6 < (y408.length : Int)) = false := decide_eq_false c37
        clear c37
        by_cases c42 : 0 ≤ x7_24
        rotate_left
        ·
         rw [if_neg c42] at H
         exact absurd H (by simp)
        rw [if_pos c42] at H
        have c42b0 := eq_true c42
        have c42b1 : decide (0 ≤ x7_24) = true := decide_eq_true c42
        clear c42
        by_cases c43 : x7_24 ≤ (l0.length : Int)
        rotate_left
        ·
         rw [if_neg c43] at H
         exact absurd H (by simp)
        rw [if_pos c43] at H
        have c43b0 := eq_true c43
        have c43b1 : decide (x7_24 ≤ (l0.length : Int)) = true := decide_eq_true c43
        clear c43
        obtain ⟨y414, hy414⟩ : ∃ y_ : List (S35), y_ = (l0.take (x7_24 : Int).toNat) := ⟨_, rfl⟩
        replace H : (if ([] : List (S35)).length + y414.length < 5864062014805 then ((some (([] : List (S35)) ++ y414 : List (S35))).bind fun y418 => (if x7_24 < (l0.length : Int) then ((some (([(⟨(rd_T35 l0 x7_24).f0, x9_6, false⟩ : S35)] : List (S35)) : List (S35))).bind fun y422 => (if y418.length + y422.length < 5864062014805 then ((some (y418 ++ y422 : List (S35))).bind fun y425 => (if 0 ≤ x8_30 then (if x8_30 ≤ (l0.length : Int) then ((some (l0.drop (x8_30 : Int).toNat : List (S35))).bind fun y428 => (if y425.length + y428.length < 5864062014805 then (some ((y425 ++ y428), x7_24, true)) else (none))) else (none)) else (none))) else (none))) else (none))) else (none)) = some (r1, r2, r3) := by first | (rw [hy414]; with_reducible exact H) | (have H2_ := (Option.bind_some _ _).symm.trans H; rw [hy414]; with_reducible exact H2_) | (have H2_ := (Option.bind_some _ _).symm.trans H; with_reducible exact H2_) | with_reducible exact H | (rw [hy414]; exact H) | exact H
        have Ny414 := Aside0.mk hy414
        clear hy414
        by_cases c44 : ([] : List (S35)).length + y414.length < 5864062014805
        rotate_left
        ·
         rw [if_neg c44] at H
         exact absurd H (by simp)
        rw [if_pos c44] at H
        have LMc44 := Aside0.mk c44
        clear c44
        obtain ⟨y418, hy418⟩ : ∃ y_ : List (S35), y_ = (([] : List (S35)) ++ y414) := ⟨_, rfl⟩
        replace H : (if x7_24 < (l0.length : Int) then ((some (([(⟨(rd_T35 l0 x7_24).f0, x9_6, false⟩ : S35)] : List (S35)) : List (S35))).bind fun y422 => (if y418.length + y422.length < 5864062014805 then ((some (y418 ++ y422 : List (S35))).bind fun y425 => (if 0 ≤ x8_30 then (if x8_30 ≤ (l0.length : Int) then ((some (l0.drop (x8_30 : Int).toNat : List (S35))).bind fun y428 => (if y425.length + y428.length < 5864062014805 then (some ((y425 ++ y428), x7_24, true)) else (none))) else (none)) else (none))) else (none))) else (none)) = some (r1, r2, r3) := by first | (rw [hy418]; with_reducible exact H) | (have H2_ := (Option.bind_some _ _).symm.trans H; rw [hy418]; with_reducible exact H2_) | (have H2_ := (Option.bind_some _ _).symm.trans H; with_reducible exact H2_) | with_reducible exact H | (rw [hy418]; exact H) | exact H
        have Ny418 := Aside0.mk hy418
        clear hy418
        by_cases c45 : x7_24 < (l0.length : Int)
        rotate_left
        ·
         rw [if_neg c45] at H
         exact absurd H (by simp)
        rw [if_pos c45] at H
        have c45b0 : decide (x7_24 < (l0.length : Int)) = true := decide_eq_true c45
        clear c45
        obtain ⟨y422, hy422⟩ : ∃ y_ : List (S35), y_ = (([(⟨(rd_T35 l0 x7_24).f0, x9_6, false⟩ : S35)] : List (S35))) := ⟨_, rfl⟩
        replace H : (if y418.length + y422.length < 5864062014805 then ((some (y418 ++ y422 : List (S35))).bind fun y425 => (if 0 ≤ x8_30 then (if x8_30 ≤ (l0.length : Int) then ((some (l0.drop (x8_30 : Int).toNat : List (S35))).bind fun y428 => (if y425.length + y428.length < 5864062014805 then (some ((y425 ++ y428), x7_24, true)) else (none))) else (none)) else (none))) else (none)) = some (r1, r2, r3) := by first | (rw [hy422]; with_reducible exact H) | (have H2_ := (Option.bind_some _ _).symm.trans H; rw [hy422]; with_reducible exact H2_) | (have H2_ := (Option.bind_some _ _).symm.trans H; with_reducible exact H2_) | with_reducible exact H | (rw [hy422]; exact H) | exact H
        have Ny422 := Aside0.mk hy422
        clear hy422
        by_cases c46 : y418.length + y422.length < 5864062014805
        rotate_left
        ·
         rw [if_neg c46] at H
         exact absurd H (by simp)
        rw [if_pos c46] at H
        have LMc46 := Aside0.mk c46
        clear c46
        obtain ⟨y425, hy425⟩ : ∃ y_ : List (S35), y_ = (y418 ++ y422) := ⟨_, rfl⟩
        replace H : (if 0 ≤ x8_30 then (if x8_30 ≤ (l0.length : Int) then ((some (l0.drop (x8_30 : Int).toNat : List (S35))).bind fun y428 => (if y425.length + y428.length < 5864062014805 then (some ((y425 ++ y428), x7_24, true)) else (none))) else (none)) else (none)) = some (r1, r2, r3) := by first | (rw [hy425]; with_reducible exact H) | (have H2_ := (Option.bind_some _ _).symm.trans H; rw [hy425]; with_reducible exact H2_) | (have H2_ := (Option.bind_some _ _).symm.trans H; with_reducible exact H2_) | with_reducible exact H | (rw [hy425]; exact H) | exact H
        have Ny425 := Aside0.mk hy425
        clear hy425
        by_cases c47 : 0 ≤ x8_30
        rotate_left
        ·
         rw [if_neg c47] at H
         exact absurd H (by simp)
        rw [if_pos c47] at H
        have c47b0 := eq_true c47
        have c47b1 : decide (0 ≤ x8_30) = true := decide_eq_true c47
        clear c47
        by_cases c48 : x8_30 ≤ (l0.length : Int)
        rotate_left
        ·
         rw [if_neg c48] at H
         exact absurd H (by simp)
        rw [if_pos c48] at H
        have c48b0 := eq_true c48
        have c48b1 : decide (x8_30 ≤ (l0.length : Int)) = true := decide_eq_true c48
        clear c48
        obtain ⟨y428, hy428⟩ : ∃ y_ : List (S35), y_ = (l0.drop (x8_30 : Int).toNat) := ⟨_, rfl⟩
        replace H : (if y425.length + y428.length < 5864062014805 then (some ((y425 ++ y428), x7_24, true)) else (none)) = some (r1, r2, r3) := by first | (rw [hy428]; with_reducible exact H) | (have H2_ := (Option.bind_some _ _).symm.trans H; rw [hy428]; with_reducible exact H2_) | (have H2_ := (Option.bind_some _ _).symm.trans H; with_reducible exact H2_) | with_reducible exact H | (rw [hy428]; exact H) | exact H
        have Ny428 := Aside0.mk hy428
        clear hy428
        by_cases c49 : y425.length + y428.length < 5864062014805
        rotate_left
        ·
         rw [if_neg c49] at H
         exact absurd H (by simp)
        rw [if_pos c49] at H
        have LMc49 := Aside0.mk c49
        clear c49
        obtain ⟨y432, hy432⟩ : ∃ y_ : List (S35), y_ = (y425 ++ y428) := ⟨_, rfl⟩
        replace H : (some (y432, x7_24, true)) = some (r1, r2, r3) := by first | (rw [hy432]; with_reducible exact H) | (have H2_ := (Option.bind_some _ _).symm.trans H; rw [hy432]; with_reducible exact H2_) | (have H2_ := (Option.bind_some _ _).symm.trans H; with_reducible exact H2_) | with_reducible exact H | (rw [hy432]; exact H) | exact H
        have Ny432 := Aside0.mk hy432
        clear hy432
        simp only [Option.some.injEq, Prod.mk.injEq] at H
        obtain ⟨rfl, rfl, rfl⟩ := H
        try go_wp2
        have n0_ := Aside0.mk (qf HB.out)
        clear HB
        have HB := n0_
        clear n0_
        have q51 : (x7_24 : Int) ≤ ((l0.length : Int) : Int) := zu
        obtain ⟨i051, hi051, _, hsz51, _⟩ := info_parts info35
        have hroom51 : l0.length ≤ c0 := HC0.out
        have hC51 : Kd.C k35 _ A0 l0.length l0 := HR0.out
        have hcut51 := cut_to (P := Try.prog) 22 35 .i64 Try.underlying22 hi051 A0 l0.length c0 x7_24 (zu) q51 hroom51
        have hr51 := Kd.C_take (m := (x7_24 : Int).toNat) hC51 (by omega)
        have hy51 : y414.length = (x7_24 : Int).toNat := (by rw [Ny414.out, qn]; omega)
        rw [← Ny414.out] at hr51
        rw [← hy51] at hcut51
        have HR417 := Aside0.mk hr51
        have HC417 := Aside0.mk (show y414.length ≤ c0 from by omega)
        clear hr51 hC51 hroom51 hi051 hsz51
        have KY51 := Aside0.mk hy51
        clear hy51
        replace q51 := eq_true q51
        have p421 : 0 ≤ (x7_24 : Int) := zu
        have q421 : x7_24 < (l0.length : Int) := zu
        obtain ⟨ad421, e421, hx421_0, hx421_1, hx421_2⟩ := at_T35 HR0.out x7_24 p421 q421
        have hw421_2 := hx421_2
        have hw421_1 := hx421_1
        have hw421_0 := hx421_0
        cases e421
        replace hx421_0 := zw HB hx421_0
        replace hx421_1 := zw HB hx421_1
        replace hx421_2 := zw HB hx421_2
        replace p421 := eq_true p421
        replace q421 := eq_true q421
        refine start_ (n := 14) (S := fun w' => w'.cell? (ad421.add ((x7_24).toNat * 3)) = some (.int .i64 ((rd_T35 l0 x7_24).f0)) ∧ w'.cell? ⟨(ad421.add ((x7_24).toNat * 3)).block, (ad421.add ((x7_24).toNat * 3)).off + 1, none⟩ = some (.int .i64 ((rd_T35 l0 x7_24).f1)) ∧ w'.cell? ⟨(ad421.add ((x7_24).toNat * 3)).block, (ad421.add ((x7_24).toNat * 3)).off + 2, none⟩ = some (.bool ((rd_T35 l0 x7_24).f2))) (ds := []) (onA 14 0) (by kernel_rfl) rfl rfl ⟨(zw HB hw421_0), (zw HB hw421_1), (zw HB hw421_2)⟩ (fun hHeld => ?_); refine with_tabW darningref4_Merged.tab14 darningref4_Merged.bits14 (fun HT_ HW_ => ?_)
        generalize wr.drew = w50 at HB HR417 hx421_0 hx421_1 hx421_2 hHeld ⊢
        refine pu 0 (some 80) (onA 14 1) HT_ (h := ?_)
        refine pu 1 (some 81) (onA 14 2) HT_ (h := ?_)
        refine pu 2 (some 82) (onA 14 3) HT_ (h := ?_)
        refine pu 4 (some 84) #[tt_,tt_,tt_,ff_,tt_,ff_,ff_,ff_,ff_,ff_,ff_,ff_,ff_,ff_] HT_ (h := ?_)
        refine pu 5 (some 85) #[tt_,tt_,tt_,ff_,tt_,tt_,ff_,ff_,ff_,ff_,ff_,ff_,ff_,ff_] HT_ (h := ?_)
        refine pu 6 (some 86) #[tt_,tt_,tt_,ff_,tt_,tt_,tt_,ff_,ff_,ff_,ff_,ff_,ff_,ff_] HT_ (h := ?_)
        refine pu 7 (some 87) #[tt_,tt_,tt_,ff_,tt_,tt_,tt_,tt_,ff_,ff_,ff_,ff_,ff_,ff_] HT_ (h := ?_)
        refine pu 9 (some 89) #[tt_,tt_,tt_,ff_,tt_,tt_,tt_,tt_,ff_,tt_,ff_,ff_,ff_,ff_] HT_ (h := ?_)
        refine take_ (i := 8) (N := some 88) (v := ?_) (a' := ?_) #[tt_,tt_,tt_,ff_,tt_,tt_,tt_,tt_,tt_,tt_,ff_,ff_,ff_,ff_] rfl rfl (take_ofW HT_.out HW_.out (by kernel_rfl)) (fun _ _ _ h => h) (Or.inl ⟨by rfl, ?_⟩) hHeld ?_ ?_
        rotate_left
        ·
         rintro w' ⟨s0, s1, s2⟩
         go_simp
         with_reducible rfl
        rotate_left
        ·
         simp only [Act.put, qg, qh, qi, i64_w, i32_w]
         rfl
        refine pu 10 (some 90) #[tt_,tt_,tt_,ff_,tt_,tt_,tt_,tt_,tt_,tt_,tt_,ff_,ff_,ff_] HT_ (h := ?_)
        refine join_ (σ := Value × Value) 2 (onA 14 12) (fun s_ => [(83, s_.1), (91, s_.2)]) (fun s_ w' => (w'.cell? (ad421.add ((x7_24).toNat * 3)) = some (.int .i64 ((rd_T35 l0 x7_24).f0)) ∧ w'.cell? ⟨(ad421.add ((x7_24).toNat * 3)).block, (ad421.add ((x7_24).toNat * 3)).off + 1, none⟩ = some (.int .i64 ((rd_T35 l0 x7_24).f1)) ∧ w'.cell? ⟨(ad421.add ((x7_24).toNat * 3)).block, (ad421.add ((x7_24).toNat * 3)).off + 2, none⟩ = some (.bool ((rd_T35 l0 x7_24).f2))) ∧ (Kd.R k35 35 w' w.heap.size (fun k_ => some k_ ≠ (s_.2 : Value).ownBlock) s_.1 y418) ∧ (Kd.R k35 35 w' w.heap.size (fun k_ => some k_ ≠ (s_.1 : Value).ownBlock) s_.2 y422) ∧ (Below w.heap.size w w')) ?_ ?_
        rotate_left
        ·
         intro hCont
         refine two_ (i := 3) (j := 11) (Ni := some 83) (Nj := some 91) (onA 14 11) #[tt_,tt_,tt_,ff_,tt_,tt_,tt_,tt_,tt_,tt_,tt_,tt_,ff_,ff_] rfl rfl rfl rfl (two_of HT_.out (by kernel_rfl)) (by decide) (by decide) (fun K hK => ?_) (fun K hK => ?_)
         ·
          skip
          refine Kd.R_append_rows_step k35 (w0 := w) w.heap.size (by rfl) (.const (.slice none 0 0)) (.tmp 82) 22 35 (.agg #[(.int .i64 0), (.int .i64 0), (.bool false)]) 24 rfl Try.underlying22 info35 rfl (by decide) (by omega) (.slice none 0 0) ([] : List (S35)) y414 _ _ _ (fun _ => True) (fun _ => False) rfl rfl ?aO ?aR (fun _ _ h => h) (fun _ h => h.elim) ?aF ?aB ?aS ?aL ?_
          (case aR => repeat (first | exact (Kd.C_below HR417.out HB.out) | (with_reducible refine qr ?_ _) | (with_reducible refine qs ?_ _) | (with_reducible refine qt ?_)))
          (case aB => exact (zB HB))
          (case aF => exact (fun _ _ => trivial))
          (case aO => exact ((Kd.R_nil _ _ _ _ (fun _ => True))))
          (case aS => exact (below_size (zB HB)))
          (case aL => have := LMc44.out; omega)
          intro v419 w52 ho hb hg hat
          rw [← Ny418.out] at ho
          have n0_ := Aside0.mk (hb)
          have n1_ := Aside0.mk (ho)
          clear HB
          have HB := n0_
          have HO420 := n1_
          clear n0_ n1_
          clear ho hb hg hat
          refine hK.out _ _ ⟨(zw HB hw421_0), (zw HB hw421_1), (zw HB hw421_2)⟩ (fun hHeld => ?_)
          clear hK K
          refine norm_ (a' := ?_) ?_ ?_
          rotate_left
          ·
           show Act.put _ (some 83) _ = _
           simp only [Act.put, qg, qh, qi, i64_w, i32_w]
           rfl
          refine one_ (i := 11) (N := some 91) (onA 14 12) rfl rfl (one_of HT_.out (by kernel_rfl)) (by decide) (fun K hK => ?_)
          refine Kd.R_lit_step k35 _ 35 ?hg (N := 91) ?hd (xs := ([(⟨(rd_T35 l0 x7_24).f0, x9_6, false⟩ : S35)] : List (S35))) (inner := [.int .i64 ((rd_T35 l0 x7_24).f0), .int .i64 x9_6, .bool false]) (ok := fun _ => True) (okp := fun _ => True) ?hr ?hp (fun _ hk => hk) trivial (Below.refl _ _) (Nat.le_refl _) (by simp) ?_; (case hd => rfl); (case hg => rfl); (case hr => first | (go_simp; done) | (go_simp; rfl)); (case hp => exact (Reps.c3 (show Kd.M k35 _ _ _ (⟨(rd_T35 l0 x7_24).f0, x9_6, false⟩ : S35) [.int .i64 ((rd_T35 l0 x7_24).f0), .int .i64 x9_6, .bool false] from (k35_mkM _ _ _ (⟨(rd_T35 l0 x7_24).f0, x9_6, false⟩ : S35) )) (Reps.none _ _)))
          intro v423 w53 ho54 hb hg_ hnew_
          clear hg_ hnew_
          (first | rw [← Ny422.out] at ho54 | (simp only [Int.reduceToNat] at ho54; rw [← Ny422.out] at ho54))
          have n0_ := Aside0.mk (Kd.R_elder' (zr HO420) (Kd.R_base ho54) hb)
          have n1_ := Aside0.mk (Kd.R_lower (Kd.R_new' ho54 (Kd.R_lt (zr HO420))) (below_size (zB HB)))
          have n2_ := zb HB hb
          clear HO420
          clear HB
          have HO420 := n0_
          have HO424 := n1_
          have HB := n2_
          clear n0_ n1_ n2_
          clear hb ho54
          refine hK.out _ _ ⟨(zw HB hw421_0), (zw HB hw421_1), (zw HB hw421_2)⟩ (fun hHeld => ?_)
          clear hK K
          refine norm_ (a' := ?_) ?_ ?_
          rotate_left
          ·
           show Act.put _ (some 91) _ = _
           simp only [Act.put, qg, qh, qi, i64_w, i32_w]
           rfl
          exact norm_ (by simp only [putAll, Act.put, qg, qh, qi]) (hCont (v419, v423) _ ⟨hHeld, (by (with_reducible repeat (first | apply qa | apply qb | apply qc)); exact Kd.R_mono HO420.out (fun _ hk => hk.2)), (by (with_reducible repeat (first | apply qa | apply qb | apply qc)); exact Kd.R_mono HO424.out (fun _ hk => hk.2)), (zB HB)⟩)
         ·
          skip
          refine Kd.R_lit_step k35 _ 35 ?hg (N := 91) ?hd (xs := ([(⟨(rd_T35 l0 x7_24).f0, x9_6, false⟩ : S35)] : List (S35))) (inner := [.int .i64 ((rd_T35 l0 x7_24).f0), .int .i64 x9_6, .bool false]) (ok := fun _ => True) (okp := fun _ => True) ?hr ?hp (fun _ hk => hk) trivial (Below.refl _ _) (Nat.le_refl _) (by simp) ?_; (case hd => rfl); (case hg => rfl); (case hr => first | (go_simp; done) | (go_simp; rfl)); (case hp => exact (Reps.c3 (show Kd.M k35 _ _ _ (⟨(rd_T35 l0 x7_24).f0, x9_6, false⟩ : S35) [.int .i64 ((rd_T35 l0 x7_24).f0), .int .i64 x9_6, .bool false] from (k35_mkM _ _ _ (⟨(rd_T35 l0 x7_24).f0, x9_6, false⟩ : S35) )) (Reps.none _ _)))
          intro v423 w52 ho53 hb hg_ hnew_
          clear hg_ hnew_
          (first | rw [← Ny422.out] at ho53 | (simp only [Int.reduceToNat] at ho53; rw [← Ny422.out] at ho53))
          have n0_ := Aside0.mk (Kd.R_lower ho53 (below_size (zB HB)))
          have n1_ := zb HB hb
          clear HB
          have HO424 := n0_
          have HB := n1_
          clear n0_ n1_
          clear hb ho53
          refine hK.out _ _ ⟨(zw HB hw421_0), (zw HB hw421_1), (zw HB hw421_2)⟩ (fun hHeld => ?_)
          clear hK K
          refine norm_ (a' := ?_) ?_ ?_
          rotate_left
          ·
           show Act.put _ (some 91) _ = _
           simp only [Act.put, qg, qh, qi, i64_w, i32_w]
           rfl
          refine one_ (i := 3) (N := some 83) (onA 14 12) rfl rfl (one_of HT_.out (by kernel_rfl)) (by decide) (fun K hK => ?_)
          refine Kd.R_append_rows_step k35 (w0 := w) w.heap.size (by rfl) (.const (.slice none 0 0)) (.tmp 82) 22 35 (.agg #[(.int .i64 0), (.int .i64 0), (.bool false)]) 24 rfl Try.underlying22 info35 rfl (by decide) (by omega) (.slice none 0 0) ([] : List (S35)) y414 _ _ _ (fun k_ => some k_ ≠ (v423 : Value).ownBlock) (fun _ => False) rfl rfl ?aO ?aR (fun _ _ h => h) (fun _ h => h.elim) ?aF ?aB ?aS ?aL ?_
          (case aR => repeat (first | exact (Kd.C_below HR417.out HB.out) | (with_reducible refine qr ?_ _) | (with_reducible refine qs ?_ _) | (with_reducible refine qt ?_)))
          (case aB => exact (zB HB))
          (case aF => exact (fun k_ hk => Kd.fresh' (Kd.R_lt (zr HO424)) k_ hk))
          (case aO => exact ((Kd.R_nil _ _ _ _ (fun k_ => some k_ ≠ (v423 : Value).ownBlock))))
          (case aS => exact (below_size (zB HB)))
          (case aL => have := LMc44.out; omega)
          intro v419 w54 ho hb hg hat
          rw [← Ny418.out] at ho
          have n0_ := Aside0.mk (Kd.R_after (Kd.R_apart_nil (zr HO424)) hg hat)
          have n1_ := Aside0.mk (hb)
          have n2_ := Aside0.mk (ho)
          clear HO424
          clear HB
          have HO424 := n0_
          have HB := n1_
          have HO420 := n2_
          clear n0_ n1_ n2_
          clear ho hb hg hat
          refine hK.out _ _ ⟨(zw HB hw421_0), (zw HB hw421_1), (zw HB hw421_2)⟩ (fun hHeld => ?_)
          clear hK K
          refine norm_ (a' := ?_) ?_ ?_
          rotate_left
          ·
           show Act.put _ (some 83) _ = _
           simp only [Act.put, qg, qh, qi, i64_w, i32_w]
           rfl
          exact norm_ (by simp only [putAll, Act.put, qg, qh, qi]) (hCont (v419, v423) _ ⟨hHeld, (zr HO420), (by (with_reducible repeat (first | apply qa | apply qb | apply qc)); exact Kd.R_mono HO424.out (fun _ hk => hk.2)), (zB HB)⟩)
        rintro ⟨v419, v423⟩ w55 ⟨hS_, h0_, h1_, h2_⟩
        have n0_ : Aside0 (Kd.R k35 35 w55 w.heap.size (fun k_ => some k_ ≠ (v423 : Value).ownBlock) v419 y418) := ⟨h0_⟩
        have n1_ : Aside0 (Kd.R k35 35 w55 w.heap.size (fun k_ => some k_ ≠ (v419 : Value).ownBlock) v423 y422) := ⟨h1_⟩
        have n2_ : Aside0 (Below w.heap.size w w55) := ⟨h2_⟩
        clear HB
        clear h0_ h1_ h2_
        have HO420 := n0_
        have HO424 := n1_
        have HB := n2_
        clear n0_ n1_ n2_
        have hHeld : w55.cell? (ad421.add ((x7_24).toNat * 3)) = some (.int .i64 ((rd_T35 l0 x7_24).f0)) ∧ w55.cell? ⟨(ad421.add ((x7_24).toNat * 3)).block, (ad421.add ((x7_24).toNat * 3)).off + 1, none⟩ = some (.int .i64 ((rd_T35 l0 x7_24).f1)) ∧ w55.cell? ⟨(ad421.add ((x7_24).toNat * 3)).block, (ad421.add ((x7_24).toNat * 3)).off + 2, none⟩ = some (.bool ((rd_T35 l0 x7_24).f2)) := hS_
        obtain ⟨Ao57, co57, eo57⟩ := Kd.R_slice HO424.out
        (first | subst eo57 | (injection eo57 with f1_ f2_ f3_; have f4_ := f1_.symm; have f5_ := f3_.symm; clear f1_ f2_ f3_; subst f4_; subst f5_))
        refine norm_ (a' := ?_) ?_ ?_
        rotate_left
        ·
         simp only [putAll, Act.put, qg, qh, qi]
         rfl
        refine one_ (i := 12) (N := some 92) (onA 14 13) rfl rfl (one_of HT_.out (by kernel_rfl)) (by decide) (fun K hK => ?_)
        refine Kd.R_append_rows_step k35 (w0 := w) w.heap.size (by rfl) (.tmp 83) (.tmp 91) 22 35 (.agg #[(.int .i64 0), (.int .i64 0), (.bool false)]) 24 rfl Try.underlying22 info35 rfl (by decide) (by omega) v419 y418 y422 _ _ _ (fun k_ => some k_ ≠ (.slice Ao57 y422.length co57 : Value).ownBlock) (fun _ => False) rfl rfl ?aO ?aR (fun _ _ h => h) (fun _ h => h.elim) ?aF ?aB ?aS ?aL ?_
        (case aR => repeat (first | exact (Kd.R_reads' HO424.out).2.2 | (with_reducible refine qr ?_ _) | (with_reducible refine qs ?_ _) | (with_reducible refine qt ?_)))
        (case aB => exact (zB HB))
        (case aF => exact (fun k_ hk => Kd.fresh' (Kd.R_lt (zr HO424)) k_ hk))
        (case aO => exact (zr HO420))
        (case aS => exact (below_size (zB HB)))
        (case aL => have := LMc46.out; omega)
        intro v426 w56 ho hb hg hat
        rw [← Ny425.out] at ho
        have n0_ := Aside0.mk (Kd.R_after (ok := (fun _ => True)) (by (with_reducible repeat (first | apply qa | apply qb | apply qc)); exact Kd.R_mono HO424.out (fun _ hk => ⟨trivial, hk⟩)) hg hat)
        have n1_ := Aside0.mk (hb)
        have n2_ := Aside0.mk (ho)
        clear HO424
        clear HB
        clear HO420
        have HO424 := n0_
        have HB := n1_
        have HO427 := n2_
        clear n0_ n1_ n2_
        clear ho hb hg hat
        refine hK.out _ _ ⟨(zw HB hw421_0), (zw HB hw421_1), (zw HB hw421_2)⟩ (fun hHeld => ?_)
        clear hK K
        refine norm_ (a' := ?_) ?_ ?_
        rotate_left
        ·
         show Act.put _ (some 92) _ = _
         simp only [Act.put, qg, qh, qi, i64_w, i32_w]
         rfl
        refine pu 13 (some 12) (onA 14 14) HT_ (h := ?_)
        refine done_ (done_of HT_.out (by kernel_rfl)) ?_
        have q58 : (x8_30 : Int) ≤ ((l0.length : Int) : Int) := zu
        obtain ⟨i058, hi058, _, hsz58, _⟩ := info_parts info35
        have hroom58 : l0.length ≤ c0 := HC0.out
        have hC58 : Kd.C k35 _ (some ad421) l0.length l0 := HR0.out
        have q058 : (0 : Int) ≤ (x8_30 : Int) := zu
        have hcut58 := cut_from (P := Try.prog) 22 35 .i64 Try.underlying22 hi058 3 hsz58 (some ad421) l0.length c0 x8_30 q058 q58
        have hr58 := Kd.C_drop (m := (x8_30 : Int).toNat) (c := c0) hC58 (by omega) hroom58
        obtain ⟨A58, hA58⟩ : ∃ A1, A1 = (if c0 = (x8_30 : Int).toNat then (some ad421) else ((some ad421) : Option Addr).map (·.add ((x8_30 : Int).toNat * 3))) := ⟨_, rfl⟩
        obtain ⟨c58, hc58⟩ : ∃ c1, c1 = c0 - (x8_30 : Int).toNat := ⟨_, rfl⟩
        have hy58 : y428.length = l0.length - (x8_30 : Int).toNat := (by rw [Ny428.out, qm] <;> omega)
        rw [show (l0).drop (x8_30 : Int).toNat = y428 from Ny428.out.symm] at hr58
        replace hr58 : Kd.C k35 _ A58 y428.length y428 := (by rw [hA58]; exact hr58)
        rw [← hy58, ← hA58, ← hc58] at hcut58
        have HR431 := Aside0.mk hr58
        have HC431 := Aside0.mk (show y428.length ≤ c58 from by rw [hy58, hc58]; exact Nat.sub_le_sub_right hroom58 _)
        clear hr58 hC58 hroom58 hi058 hsz58 hc58
        have KY58 := Aside0.mk hy58
        have KA58 := Aside0.mk hA58
        clear hy58 hA58
        replace q58 := eq_true q58
        try go_wp2_with (first | ((with_reducible refine gate_builtin (b := .append) (xs := #[.tmp 93, .tmp 96]) rfl ?_); (try (refine gate_guard (by rfl) ?_; dsimp only)); at_builtin; refine Kd.R_append_rows k35 (w0 := w) w.heap.size rfl (.tmp 93) (.tmp 96) 22 35 (.agg #[(.int .i64 0), (.int .i64 0), (.bool false)]) 24 rfl Try.underlying22 info35 rfl (by decide) (by omega) v426 y425 y428 _ _ _ (fun k_ => some k_ ≠ (.slice Ao57 y422.length co57 : Value).ownBlock) (fun _ => False) rfl rfl ?aO ?aR (fun _ _ h => h) (fun _ h => h.elim) ?aF ?aB ?aS ?aL ?_; (case aR => repeat (first | exact (Kd.C_below HR431.out HB.out) | (with_reducible refine qr ?_ _) | (with_reducible refine qs ?_ _) | (with_reducible refine qt ?_))); (case aB => exact (zB HB)); (case aF => exact (fun k_ hk => Kd.fresh' (Kd.R_lt (zr HO424)) k_ hk)); (case aO => exact (zr HO427)); (case aS => exact (below_size (zB HB))); (case aL => have := LMc49.out; omega); intro v433 w59 ho hb hg hat; rw [← Ny432.out] at ho; have n0_ := Aside0.mk (Kd.R_after (ok := (fun _ => True)) (zr HO424) hg hat); have n1_ := Aside0.mk (hb); have n2_ := Aside0.mk (ho); clear HO424; clear HB; clear HO427; have HO424 := n0_; have HB := n1_; have HO434 := n2_; clear n0_ n1_ n2_; clear ho hb hg hat))
        go_ret3
        exact ⟨_, by first | rfl | (simp [errW_none, errW_some] <;> rfl) | (simp [*, errW_none, errW_some] <;> rfl), by (with_reducible repeat (first | apply qa | apply qb | apply qc)); exact Kd.R_mono HO434.out (fun _ hk => trivial), zB HB⟩

end Go.Proofs.Ytglekonhdjploaa.XImageForms
