-- printed by wip/xprint.py
import Derived.Test.YtglekonhdjploaaXImageFormsx0
import Derived.Test.YtglekonhdjploaaXImageFormsx2
import Derived.Test.YtglekonhdjploaaXImageFormsx8
import Derived.Test.YtglekonhdjploaaXImageFormsx9
import Derived.Test.YtglekonhdjploaaXImageFormsx10
import Derived.Test.YtglekonhdjploaaXImageFormsx12
import Derived.Test.YtglekonhdjploaaXImageFormsx16
import Derived.Test.YtglekonhdjploaaXImageFormsx20
import Derived.Test.YtglekonhdjploaaXImageFormsx21
import Derived.Test.YtglekonhdjploaaXImageFormsx23
import Derived.Test.YtglekonhdjploaaXImageFormsx24
import Derived.Test.YtglekonhdjploaaXImageFormsx25
namespace Go.Proofs.Ytglekonhdjploaa.XImageForms
open Go.RowKit Go.Proofs.YtglekonhdjploaaW.PrintWords Go.Proofs.YtglekonhdjploaaW.PrintLast Go.Proofs.YtglekonhdjploaaW.PrintMore
attribute [local go_sem] max2_int min2_int max_two min_two max_three min_three max_four min_four
set_option linter.unusedVariables false
set_option linter.unusedSimpArgs false

/-! ### darninglaw19_ImageForms: function 13 -/
def darninglaw19_ImageForms.j0 : Nat → List Int → Int → List Int → Int → List Int → Bool → Option (Bool)
 | 0, _, _, _, _, _, _ => none
 | k + 1, x0, x1, x2, x3, x4, x43 => if x43 = true then ((darninglaw19_awake.f k).bind fun t491 => (some t491)) else ((image_Alloc.f k x0 x1 x2).bind fun bt492 => ((darningref4_ImageAlloc.f k x0 x1 x2).bind fun bt497 => ((image_Free.f k x0 x3).bind fun bt502 => ((darningref4_ImageFree.f k x0 x3).bind fun bt506 => ((image_Read.f k x0 x3 x1).bind fun bt510 => ((darningref4_ImageRead.f k x0 x3 x1).bind fun bt514 => ((image_Write.f k x0 x3 x4).bind fun bt518 => ((darningref4_ImageWrite.f k x0 x3 x4).bind fun bt522 => ((darningref4_Blocks.f k x0).bind fun bt526 => ((darningref4_SameEdits.f k bt492.1 bt497.1).bind fun t530 => (if t530 = true then (if bt492.2.1 = bt497.2.1 then (if bt492.2.2 = bt497.2.2 then ((darningref4_SameEdits.f k bt502.1 bt506.1).bind fun t531 => (if t531 = true then (if bt502.2 = bt506.2 then (if (strOfNums bt510.1).toList = (strOfNums bt514.1).toList then (if bt510.2 = bt514.2 then ((darningref4_SameEdits.f k bt518.1 bt522.1).bind fun t532 => (if t532 = true then (if bt518.2 = bt522.2 then ((image_Is.f k x0 x3).bind fun t533 => (if bt526.2 = true then ((darningref4_Is.f k bt526.1 x3).bind fun t534 => (if (t533 == (decide (t534 ≥ 0))) = true then ((image_Holds.f k x0 x3 x1).bind fun t535 => ((darningref4_Within.f k bt526.1 x3 x1).bind fun t536 => (if (t535 == t536) = true then ((darninglaw19_awake.f k).bind fun t537 => (some t537)) else (some false)))) else (some false))) else (if (t533 == false) = true then ((image_Holds.f k x0 x3 x1).bind fun t538 => (if (t538 == false) = true then ((darninglaw19_awake.f k).bind fun t539 => (some t539)) else (some false))) else (some false)))) else (some false)) else (some false))) else (some false)) else (some false)) else (some false)) else (some false))) else (some false)) else (some false)) else (some false))))))))))))
def darninglaw19_ImageForms.f (k : Nat) (l0 : List Int) (a1 : Int) (l2 : List Int) (a3 : Int) (l4 : List Int) : Option (Bool) := if (l0.length : Int) > 600 then (darninglaw19_ImageForms.j0 k l0 a1 l2 a3 l4 true) else (if (l2.length : Int) > 60 then (darninglaw19_ImageForms.j0 k l0 a1 l2 a3 l4 true) else (darninglaw19_ImageForms.j0 k l0 a1 l2 a3 l4 (decide ((l4.length : Int) > 600))))
theorem darninglaw19_ImageForms.mono_l : ∀ k, (∀ y0 y1 y2 y3 y4 y5, LeO (darninglaw19_ImageForms.j0 k y0 y1 y2 y3 y4 y5) (darninglaw19_ImageForms.j0 (k + 1) y0 y1 y2 y3 y4 y5))
 | 0 => fun _ _ _ _ _ _ r h => by simp [darninglaw19_ImageForms.j0] at h
 | k + 1 => by
  have ih0 := darninglaw19_ImageForms.mono_l k
  ·
   intro y0 y1 y2 y3 y4 y5
   unfold darninglaw19_ImageForms.j0
   repeat' first
   | (with_reducible exact ih0 _ _ _ _ _ _)
   | (with_reducible exact darninglaw19_awake.mono _)
   | (with_reducible exact darningref4_Blocks.mono _ _)
   | (with_reducible exact darningref4_ImageAlloc.mono _ _ _ _)
   | (with_reducible exact darningref4_ImageFree.mono _ _ _)
   | (with_reducible exact darningref4_ImageRead.mono _ _ _ _)
   | (with_reducible exact darningref4_ImageWrite.mono _ _ _ _)
   | (with_reducible exact darningref4_Is.mono _ _ _)
   | (with_reducible exact darningref4_SameEdits.mono _ _ _)
   | (with_reducible exact darningref4_Within.mono _ _ _ _)
   | (with_reducible exact image_Alloc.mono _ _ _ _)
   | (with_reducible exact image_Free.mono _ _ _)
   | (with_reducible exact image_Holds.mono _ _ _ _)
   | (with_reducible exact image_Is.mono _ _ _)
   | (with_reducible exact image_Read.mono _ _ _ _)
   | (with_reducible exact image_Write.mono _ _ _ _)
   | (with_reducible exact LeO.refl _)
   | (with_reducible exact LeO.none _)
   | (with_reducible refine LeO.ite ?_ ?_)
   | (with_reducible refine LeO.bind ?_ (fun _ => ?_))
   | exact ih0 _ _ _ _ _ _
   | exact darninglaw19_awake.mono _
   | exact darningref4_Blocks.mono _ _
   | exact darningref4_ImageAlloc.mono _ _ _ _
   | exact darningref4_ImageFree.mono _ _ _
   | exact darningref4_ImageRead.mono _ _ _ _
   | exact darningref4_ImageWrite.mono _ _ _ _
   | exact darningref4_Is.mono _ _ _
   | exact darningref4_SameEdits.mono _ _ _
   | exact darningref4_Within.mono _ _ _ _
   | exact image_Alloc.mono _ _ _ _
   | exact image_Free.mono _ _ _
   | exact image_Holds.mono _ _ _ _
   | exact image_Is.mono _ _ _
   | exact image_Read.mono _ _ _ _
   | exact image_Write.mono _ _ _ _
   | exact LeO.none _
   | refine LeO.ite ?_ ?_
   | refine LeO.bind ?_ (fun _ => ?_)
theorem darninglaw19_ImageForms.mono : ∀ a0 a1 a2 a3 a4 k, LeO (darninglaw19_ImageForms.f k a0 a1 a2 a3 a4) (darninglaw19_ImageForms.f (k + 1) a0 a1 a2 a3 a4) := by
 intro a0 a1 a2 a3 a4 k
 have ih0 := darninglaw19_ImageForms.mono_l k
 unfold darninglaw19_ImageForms.f
 repeat' first
   | (with_reducible exact ih0 _ _ _ _ _ _)
   | (with_reducible exact darninglaw19_awake.mono _)
   | (with_reducible exact darningref4_Blocks.mono _ _)
   | (with_reducible exact darningref4_ImageAlloc.mono _ _ _ _)
   | (with_reducible exact darningref4_ImageFree.mono _ _ _)
   | (with_reducible exact darningref4_ImageRead.mono _ _ _ _)
   | (with_reducible exact darningref4_ImageWrite.mono _ _ _ _)
   | (with_reducible exact darningref4_Is.mono _ _ _)
   | (with_reducible exact darningref4_SameEdits.mono _ _ _)
   | (with_reducible exact darningref4_Within.mono _ _ _ _)
   | (with_reducible exact image_Alloc.mono _ _ _ _)
   | (with_reducible exact image_Free.mono _ _ _)
   | (with_reducible exact image_Holds.mono _ _ _ _)
   | (with_reducible exact image_Is.mono _ _ _)
   | (with_reducible exact image_Read.mono _ _ _ _)
   | (with_reducible exact image_Write.mono _ _ _ _)
   | (with_reducible exact LeO.refl _)
   | (with_reducible exact LeO.none _)
   | (with_reducible refine LeO.ite ?_ ?_)
   | (with_reducible refine LeO.bind ?_ (fun _ => ?_))
   | exact ih0 _ _ _ _ _ _
   | exact darninglaw19_awake.mono _
   | exact darningref4_Blocks.mono _ _
   | exact darningref4_ImageAlloc.mono _ _ _ _
   | exact darningref4_ImageFree.mono _ _ _
   | exact darningref4_ImageRead.mono _ _ _ _
   | exact darningref4_ImageWrite.mono _ _ _ _
   | exact darningref4_Is.mono _ _ _
   | exact darningref4_SameEdits.mono _ _ _
   | exact darningref4_Within.mono _ _ _ _
   | exact image_Alloc.mono _ _ _ _
   | exact image_Free.mono _ _ _
   | exact image_Holds.mono _ _ _ _
   | exact image_Is.mono _ _ _
   | exact image_Read.mono _ _ _ _
   | exact image_Write.mono _ _ _ _
   | exact LeO.none _
   | refine LeO.ite ?_ ?_
   | refine LeO.bind ?_ (fun _ => ?_)
set_option maxHeartbeats 8000000 in
set_option maxRecDepth 100000 in
theorem darninglaw19_ImageForms.calls (k : Nat) (A0 : Option Addr) (c0 : Nat) (l0 : List Int) (a1 : Int) (A2 : Option Addr) (c2 : Nat) (l2 : List Int) (a3 : Int) (A4 : Option Addr) (c4 : Nat) (l4 : List Int) (w : World) (hr0 : Kd.C (Kd.int .u64) w A0 l0.length l0) (hc0 : l0.length ≤ c0) (hr2 : Kd.C (Kd.int .i64) w A2 l2.length l2) (hc2 : l2.length ≤ c2) (hr4 : Kd.C (Kd.int .u8) w A4 l4.length l4) (hc4 : l4.length ≤ c4) (h : darninglaw19_ImageForms.f k l0 a1 l2 a3 l4 = some true) :
  Calls Try.prog 13 #[.slice A0 l0.length c0, .int .i64 a1, .slice A2 l2.length c2, .int .i64 a3, .slice A4 l4.length c4] w fun e w' => e = .returned (.bool true) ∧ Below w.heap.size w w' := by
 have HR0 := Aside0.mk hr0
 have HC0 := Aside0.mk hc0
 clear hr0 hc0
 have HR2 := Aside0.mk hr2
 have HC2 := Aside0.mk hc2
 clear hr2 hc2
 have HR4 := Aside0.mk hr4
 have HC4 := Aside0.mk hc4
 clear hr4 hc4
 have HB := Aside0.mk (Below.refl w.heap.size w)
 have H : (if (l0.length : Int) > 600 then (darninglaw19_ImageForms.j0 k l0 a1 l2 a3 l4 true) else (if (l2.length : Int) > 60 then (darninglaw19_ImageForms.j0 k l0 a1 l2 a3 l4 true) else (darninglaw19_ImageForms.j0 k l0 a1 l2 a3 l4 (decide ((l4.length : Int) > 600))))) = some true := h
 clear h
 have HC6 := Aside0.mk H
 clear H
 go_enter Try.func13, Try.ntmps13
 go_upto_region 1 with (fail)
 go_cut [43] (fun v43 wc => ∃ (kq : Nat) (x43_5 : Bool), v43 = .bool x43_5 ∧ Aside0 (darninglaw19_ImageForms.j0 kq l0 a1 l2 a3 l4 x43_5 = some true) ∧ Aside0 (kq ≤ k) ∧ Aside0 (Below w.heap.size w wc))
 case first =>
  have H := HC6.out
  clear HC6
  by_cases c7 : (l0.length : Int) > 600
  ·
   rw [if_pos c7] at H
   have c7b0 : decide (600 < (l0.length : Int)) = true := decide_eq_true c7
   have c7b1 : decide (600 < l0.length) = true := decide_eq_true (by omega)
   clear c7
   (first | rw [c7b0] | (simp only [i64_w, i32_w]; rw [c7b0]) | skip)
   have H' := Aside0.mk H
   clear H
   go_wp2
   go_meet
   case rel => exact ⟨_, (true), (by first | rfl | (simp; done) | (simp [*]; done)), H', ⟨by first | omega | exact Nat.le_refl _⟩, ⟨zB HB⟩⟩
  rw [if_neg c7] at H
  have c7b0 : decide (600 < (l0.length : Int)) = false := decide_eq_false c7
  have c7b1 : decide (600 < l0.length) = false := decide_eq_false (by omega)
  clear c7
  (first | rw [c7b0] | (simp only [i64_w, i32_w]; rw [c7b0]) | skip)
  by_cases c8 : (l2.length : Int) > 60
  ·
   rw [if_pos c8] at H
   have c8b0 : decide (60 < (l2.length : Int)) = true := decide_eq_true c8
   have c8b1 : decide (60 < l2.length) = true := decide_eq_true (by omega)
   clear c8
   have H' := Aside0.mk H
   clear H
   go_wp2
   go_meet
   case rel => exact ⟨_, (true), (by first | rfl | (simp; done) | (simp [*]; done)), H', ⟨by first | omega | exact Nat.le_refl _⟩, ⟨zB HB⟩⟩
  rw [if_neg c8] at H
  have c8b0 : decide (60 < (l2.length : Int)) = false := decide_eq_false c8
  have c8b1 : decide (60 < l2.length) = false := decide_eq_false (by omega)
  clear c8
  have H' := Aside0.mk H
  clear H
  go_wp2
  go_meet
  case rel => exact ⟨_, (decide ((l4.length : Int) > 600)), (by first | rfl | (simp; done) | (simp [*]; done)), H', ⟨by first | omega | exact Nat.le_refl _⟩, ⟨zB HB⟩⟩
 clear HC6
 try clear c1
 try clear c2
 try clear p2
 try clear c4
 try clear c7
 try clear c7b0
 try clear c7b1
 try clear c8
 try clear c8b0
 try clear c8b1
 obtain ⟨kq, x43_5, rfl, HA, HJ5, HB⟩ := hcut
 cases kq with
 | zero => exact absurd HA.out (by simp [darninglaw19_ImageForms.j0])
 | succ kj5 =>
  have H := HA.out
  clear HA
  simp only [darninglaw19_ImageForms.j0] at H
  by_cases c9 : x43_5 = true
  ·
   subst c9
   have H1 : ((darninglaw19_awake.f kj5).bind fun t491 => (some t491)) = some true := by rw [if_pos rfl] at H; exact H
   clear H
   have H := H1
   clear H1
   replace H := Option.bind_eq_some_iff.mp H
   obtain ⟨t491, A100, H⟩ := H
   replace H : (some t491) = some true := H
   have A10 := Aside0.mk A100
   clear A100
   obtain rfl : t491 = true := Option.some.inj H
   go_wp2_with (first | ((with_reducible refine gate_callee (f := 40) rfl ?_); refine goesL_ (some 44) rfl rfl Try.func40 (by kernel_rfl) rfl #[] rfl (by (try simp only [qj, qk, ql]); first | done | rfl | (simp only [qm, qn]; rfl)) ?_; (with_reducible refine (darninglaw19_awake.calls kj5   _ A10.out).mono ?_); rintro e w11 ⟨rfl, hb⟩; refine ⟨_, rfl, ?_⟩; have n0_ := zb HB hb; replace HB := n0_; clear n0_; (try clear hb)))
   go_ret
   exact ⟨by first | rfl | (rw [HRA_.out]) | (simp only [HRA_.out]; done) | (simp only [← HRA_.out]; done) | (have HR_ := HRA_.out; simp_all) | (simp [errW_none, errW_some] <;> rfl) | (simp [*, errW_none, errW_some] <;> rfl), zB HB⟩
  replace c9 := Bool.eq_false_iff.mpr c9
  subst c9
  have H1 : ((image_Alloc.f kj5 l0 a1 l2).bind fun bt492 => ((darningref4_ImageAlloc.f kj5 l0 a1 l2).bind fun bt497 => ((image_Free.f kj5 l0 a3).bind fun bt502 => ((darningref4_ImageFree.f kj5 l0 a3).bind fun bt506 => ((image_Read.f kj5 l0 a3 a1).bind fun bt510 => ((darningref4_ImageRead.f kj5 l0 a3 a1).bind fun bt514 => ((image_Write.f kj5 l0 a3 l4).bind fun bt518 => ((darningref4_ImageWrite.f kj5 l0 a3 l4).bind fun bt522 => ((darningref4_Blocks.f kj5 l0).bind fun bt526 => ((darningref4_SameEdits.f kj5 bt492.1 bt497.1).bind fun t530 => (if t530 = true then (if bt492.2.1 = bt497.2.1 then (if bt492.2.2 = bt497.2.2 then ((darningref4_SameEdits.f kj5 bt502.1 bt506.1).bind fun t531 => (if t531 = true then (if bt502.2 = bt506.2 then (if (strOfNums bt510.1).toList = (strOfNums bt514.1).toList then (if bt510.2 = bt514.2 then ((darningref4_SameEdits.f kj5 bt518.1 bt522.1).bind fun t532 => (if t532 = true then (if bt518.2 = bt522.2 then ((image_Is.f kj5 l0 a3).bind fun t533 => (if bt526.2 = true then ((darningref4_Is.f kj5 bt526.1 a3).bind fun t534 => (if (t533 == (decide (t534 ≥ 0))) = true then ((image_Holds.f kj5 l0 a3 a1).bind fun t535 => ((darningref4_Within.f kj5 bt526.1 a3 a1).bind fun t536 => (if (t535 == t536) = true then ((darninglaw19_awake.f kj5).bind fun t537 => (some t537)) else (some false)))) else (some false))) else (if (t533 == false) = true then ((image_Holds.f kj5 l0 a3 a1).bind fun t538 => (if (t538 == false) = true then ((darninglaw19_awake.f kj5).bind fun t539 => (some t539)) else (some false))) else (some false)))) else (some false)) else (some false))) else (some false)) else (some false)) else (some false)) else (some false))) else (some false)) else (some false)) else (some false)))))))))))) = some true := by rw [if_neg (show ¬ (false = true) by decide)] at H; exact H
  clear H
  have H := H1
  clear H1
  replace H := Option.bind_eq_some_iff.mp H
  obtain ⟨⟨t492, t493, t494⟩, A120, H⟩ := H
  replace H : ((darningref4_ImageAlloc.f kj5 l0 a1 l2).bind fun bt497 => ((image_Free.f kj5 l0 a3).bind fun bt502 => ((darningref4_ImageFree.f kj5 l0 a3).bind fun bt506 => ((image_Read.f kj5 l0 a3 a1).bind fun bt510 => ((darningref4_ImageRead.f kj5 l0 a3 a1).bind fun bt514 => ((image_Write.f kj5 l0 a3 l4).bind fun bt518 => ((darningref4_ImageWrite.f kj5 l0 a3 l4).bind fun bt522 => ((darningref4_Blocks.f kj5 l0).bind fun bt526 => ((darningref4_SameEdits.f kj5 t492 bt497.1).bind fun t530 => (if t530 = true then (if t493 = bt497.2.1 then (if t494 = bt497.2.2 then ((darningref4_SameEdits.f kj5 bt502.1 bt506.1).bind fun t531 => (if t531 = true then (if bt502.2 = bt506.2 then (if (strOfNums bt510.1).toList = (strOfNums bt514.1).toList then (if bt510.2 = bt514.2 then ((darningref4_SameEdits.f kj5 bt518.1 bt522.1).bind fun t532 => (if t532 = true then (if bt518.2 = bt522.2 then ((image_Is.f kj5 l0 a3).bind fun t533 => (if bt526.2 = true then ((darningref4_Is.f kj5 bt526.1 a3).bind fun t534 => (if (t533 == (decide (t534 ≥ 0))) = true then ((image_Holds.f kj5 l0 a3 a1).bind fun t535 => ((darningref4_Within.f kj5 bt526.1 a3 a1).bind fun t536 => (if (t535 == t536) = true then ((darninglaw19_awake.f kj5).bind fun t537 => (some t537)) else (some false)))) else (some false))) else (if (t533 == false) = true then ((image_Holds.f kj5 l0 a3 a1).bind fun t538 => (if (t538 == false) = true then ((darninglaw19_awake.f kj5).bind fun t539 => (some t539)) else (some false))) else (some false)))) else (some false)) else (some false))) else (some false)) else (some false)) else (some false)) else (some false))) else (some false)) else (some false)) else (some false))))))))))) = some true := H
  have A12 := Aside0.mk A120
  clear A120
  replace H := Option.bind_eq_some_iff.mp H
  obtain ⟨⟨t497, t498, t499⟩, A130, H⟩ := H
  replace H : ((image_Free.f kj5 l0 a3).bind fun bt502 => ((darningref4_ImageFree.f kj5 l0 a3).bind fun bt506 => ((image_Read.f kj5 l0 a3 a1).bind fun bt510 => ((darningref4_ImageRead.f kj5 l0 a3 a1).bind fun bt514 => ((image_Write.f kj5 l0 a3 l4).bind fun bt518 => ((darningref4_ImageWrite.f kj5 l0 a3 l4).bind fun bt522 => ((darningref4_Blocks.f kj5 l0).bind fun bt526 => ((darningref4_SameEdits.f kj5 t492 t497).bind fun t530 => (if t530 = true then (if t493 = t498 then (if t494 = t499 then ((darningref4_SameEdits.f kj5 bt502.1 bt506.1).bind fun t531 => (if t531 = true then (if bt502.2 = bt506.2 then (if (strOfNums bt510.1).toList = (strOfNums bt514.1).toList then (if bt510.2 = bt514.2 then ((darningref4_SameEdits.f kj5 bt518.1 bt522.1).bind fun t532 => (if t532 = true then (if bt518.2 = bt522.2 then ((image_Is.f kj5 l0 a3).bind fun t533 => (if bt526.2 = true then ((darningref4_Is.f kj5 bt526.1 a3).bind fun t534 => (if (t533 == (decide (t534 ≥ 0))) = true then ((image_Holds.f kj5 l0 a3 a1).bind fun t535 => ((darningref4_Within.f kj5 bt526.1 a3 a1).bind fun t536 => (if (t535 == t536) = true then ((darninglaw19_awake.f kj5).bind fun t537 => (some t537)) else (some false)))) else (some false))) else (if (t533 == false) = true then ((image_Holds.f kj5 l0 a3 a1).bind fun t538 => (if (t538 == false) = true then ((darninglaw19_awake.f kj5).bind fun t539 => (some t539)) else (some false))) else (some false)))) else (some false)) else (some false))) else (some false)) else (some false)) else (some false)) else (some false))) else (some false)) else (some false)) else (some false)))))))))) = some true := H
  have A13 := Aside0.mk A130
  clear A130
  replace H := Option.bind_eq_some_iff.mp H
  obtain ⟨⟨t502, t503⟩, A140, H⟩ := H
  replace H : ((darningref4_ImageFree.f kj5 l0 a3).bind fun bt506 => ((image_Read.f kj5 l0 a3 a1).bind fun bt510 => ((darningref4_ImageRead.f kj5 l0 a3 a1).bind fun bt514 => ((image_Write.f kj5 l0 a3 l4).bind fun bt518 => ((darningref4_ImageWrite.f kj5 l0 a3 l4).bind fun bt522 => ((darningref4_Blocks.f kj5 l0).bind fun bt526 => ((darningref4_SameEdits.f kj5 t492 t497).bind fun t530 => (if t530 = true then (if t493 = t498 then (if t494 = t499 then ((darningref4_SameEdits.f kj5 t502 bt506.1).bind fun t531 => (if t531 = true then (if t503 = bt506.2 then (if (strOfNums bt510.1).toList = (strOfNums bt514.1).toList then (if bt510.2 = bt514.2 then ((darningref4_SameEdits.f kj5 bt518.1 bt522.1).bind fun t532 => (if t532 = true then (if bt518.2 = bt522.2 then ((image_Is.f kj5 l0 a3).bind fun t533 => (if bt526.2 = true then ((darningref4_Is.f kj5 bt526.1 a3).bind fun t534 => (if (t533 == (decide (t534 ≥ 0))) = true then ((image_Holds.f kj5 l0 a3 a1).bind fun t535 => ((darningref4_Within.f kj5 bt526.1 a3 a1).bind fun t536 => (if (t535 == t536) = true then ((darninglaw19_awake.f kj5).bind fun t537 => (some t537)) else (some false)))) else (some false))) else (if (t533 == false) = true then ((image_Holds.f kj5 l0 a3 a1).bind fun t538 => (if (t538 == false) = true then ((darninglaw19_awake.f kj5).bind fun t539 => (some t539)) else (some false))) else (some false)))) else (some false)) else (some false))) else (some false)) else (some false)) else (some false)) else (some false))) else (some false)) else (some false)) else (some false))))))))) = some true := H
  have A14 := Aside0.mk A140
  clear A140
  replace H := Option.bind_eq_some_iff.mp H
  obtain ⟨⟨t506, t507⟩, A150, H⟩ := H
  replace H : ((image_Read.f kj5 l0 a3 a1).bind fun bt510 => ((darningref4_ImageRead.f kj5 l0 a3 a1).bind fun bt514 => ((image_Write.f kj5 l0 a3 l4).bind fun bt518 => ((darningref4_ImageWrite.f kj5 l0 a3 l4).bind fun bt522 => ((darningref4_Blocks.f kj5 l0).bind fun bt526 => ((darningref4_SameEdits.f kj5 t492 t497).bind fun t530 => (if t530 = true then (if t493 = t498 then (if t494 = t499 then ((darningref4_SameEdits.f kj5 t502 t506).bind fun t531 => (if t531 = true then (if t503 = t507 then (if (strOfNums bt510.1).toList = (strOfNums bt514.1).toList then (if bt510.2 = bt514.2 then ((darningref4_SameEdits.f kj5 bt518.1 bt522.1).bind fun t532 => (if t532 = true then (if bt518.2 = bt522.2 then ((image_Is.f kj5 l0 a3).bind fun t533 => (if bt526.2 = true then ((darningref4_Is.f kj5 bt526.1 a3).bind fun t534 => (if (t533 == (decide (t534 ≥ 0))) = true then ((image_Holds.f kj5 l0 a3 a1).bind fun t535 => ((darningref4_Within.f kj5 bt526.1 a3 a1).bind fun t536 => (if (t535 == t536) = true then ((darninglaw19_awake.f kj5).bind fun t537 => (some t537)) else (some false)))) else (some false))) else (if (t533 == false) = true then ((image_Holds.f kj5 l0 a3 a1).bind fun t538 => (if (t538 == false) = true then ((darninglaw19_awake.f kj5).bind fun t539 => (some t539)) else (some false))) else (some false)))) else (some false)) else (some false))) else (some false)) else (some false)) else (some false)) else (some false))) else (some false)) else (some false)) else (some false)))))))) = some true := H
  have A15 := Aside0.mk A150
  clear A150
  replace H := Option.bind_eq_some_iff.mp H
  obtain ⟨⟨t510, t511⟩, A160, H⟩ := H
  replace H : ((darningref4_ImageRead.f kj5 l0 a3 a1).bind fun bt514 => ((image_Write.f kj5 l0 a3 l4).bind fun bt518 => ((darningref4_ImageWrite.f kj5 l0 a3 l4).bind fun bt522 => ((darningref4_Blocks.f kj5 l0).bind fun bt526 => ((darningref4_SameEdits.f kj5 t492 t497).bind fun t530 => (if t530 = true then (if t493 = t498 then (if t494 = t499 then ((darningref4_SameEdits.f kj5 t502 t506).bind fun t531 => (if t531 = true then (if t503 = t507 then (if (strOfNums t510).toList = (strOfNums bt514.1).toList then (if t511 = bt514.2 then ((darningref4_SameEdits.f kj5 bt518.1 bt522.1).bind fun t532 => (if t532 = true then (if bt518.2 = bt522.2 then ((image_Is.f kj5 l0 a3).bind fun t533 => (if bt526.2 = true then ((darningref4_Is.f kj5 bt526.1 a3).bind fun t534 => (if (t533 == (decide (t534 ≥ 0))) = true then ((image_Holds.f kj5 l0 a3 a1).bind fun t535 => ((darningref4_Within.f kj5 bt526.1 a3 a1).bind fun t536 => (if (t535 == t536) = true then ((darninglaw19_awake.f kj5).bind fun t537 => (some t537)) else (some false)))) else (some false))) else (if (t533 == false) = true then ((image_Holds.f kj5 l0 a3 a1).bind fun t538 => (if (t538 == false) = true then ((darninglaw19_awake.f kj5).bind fun t539 => (some t539)) else (some false))) else (some false)))) else (some false)) else (some false))) else (some false)) else (some false)) else (some false)) else (some false))) else (some false)) else (some false)) else (some false))))))) = some true := H
  have A16 := Aside0.mk A160
  clear A160
  replace H := Option.bind_eq_some_iff.mp H
  obtain ⟨⟨t514, t515⟩, A170, H⟩ := H
  replace H : ((image_Write.f kj5 l0 a3 l4).bind fun bt518 => ((darningref4_ImageWrite.f kj5 l0 a3 l4).bind fun bt522 => ((darningref4_Blocks.f kj5 l0).bind fun bt526 => ((darningref4_SameEdits.f kj5 t492 t497).bind fun t530 => (if t530 = true then (if t493 = t498 then (if t494 = t499 then ((darningref4_SameEdits.f kj5 t502 t506).bind fun t531 => (if t531 = true then (if t503 = t507 then (if (strOfNums t510).toList = (strOfNums t514).toList then (if t511 = t515 then ((darningref4_SameEdits.f kj5 bt518.1 bt522.1).bind fun t532 => (if t532 = true then (if bt518.2 = bt522.2 then ((image_Is.f kj5 l0 a3).bind fun t533 => (if bt526.2 = true then ((darningref4_Is.f kj5 bt526.1 a3).bind fun t534 => (if (t533 == (decide (t534 ≥ 0))) = true then ((image_Holds.f kj5 l0 a3 a1).bind fun t535 => ((darningref4_Within.f kj5 bt526.1 a3 a1).bind fun t536 => (if (t535 == t536) = true then ((darninglaw19_awake.f kj5).bind fun t537 => (some t537)) else (some false)))) else (some false))) else (if (t533 == false) = true then ((image_Holds.f kj5 l0 a3 a1).bind fun t538 => (if (t538 == false) = true then ((darninglaw19_awake.f kj5).bind fun t539 => (some t539)) else (some false))) else (some false)))) else (some false)) else (some false))) else (some false)) else (some false)) else (some false)) else (some false))) else (some false)) else (some false)) else (some false)))))) = some true := H
  have A17 := Aside0.mk A170
  clear A170
  replace H := Option.bind_eq_some_iff.mp H
  obtain ⟨⟨t518, t519⟩, A180, H⟩ := H
  replace H : ((darningref4_ImageWrite.f kj5 l0 a3 l4).bind fun bt522 => ((darningref4_Blocks.f kj5 l0).bind fun bt526 => ((darningref4_SameEdits.f kj5 t492 t497).bind fun t530 => (if t530 = true then (if t493 = t498 then (if t494 = t499 then ((darningref4_SameEdits.f kj5 t502 t506).bind fun t531 => (if t531 = true then (if t503 = t507 then (if (strOfNums t510).toList = (strOfNums t514).toList then (if t511 = t515 then ((darningref4_SameEdits.f kj5 t518 bt522.1).bind fun t532 => (if t532 = true then (if t519 = bt522.2 then ((image_Is.f kj5 l0 a3).bind fun t533 => (if bt526.2 = true then ((darningref4_Is.f kj5 bt526.1 a3).bind fun t534 => (if (t533 == (decide (t534 ≥ 0))) = true then ((image_Holds.f kj5 l0 a3 a1).bind fun t535 => ((darningref4_Within.f kj5 bt526.1 a3 a1).bind fun t536 => (if (t535 == t536) = true then ((darninglaw19_awake.f kj5).bind fun t537 => (some t537)) else (some false)))) else (some false))) else (if (t533 == false) = true then ((image_Holds.f kj5 l0 a3 a1).bind fun t538 => (if (t538 == false) = true then ((darninglaw19_awake.f kj5).bind fun t539 => (some t539)) else (some false))) else (some false)))) else (some false)) else (some false))) else (some false)) else (some false)) else (some false)) else (some false))) else (some false)) else (some false)) else (some false))))) = some true := H
  have A18 := Aside0.mk A180
  clear A180
  replace H := Option.bind_eq_some_iff.mp H
  obtain ⟨⟨t522, t523⟩, A190, H⟩ := H
  replace H : ((darningref4_Blocks.f kj5 l0).bind fun bt526 => ((darningref4_SameEdits.f kj5 t492 t497).bind fun t530 => (if t530 = true then (if t493 = t498 then (if t494 = t499 then ((darningref4_SameEdits.f kj5 t502 t506).bind fun t531 => (if t531 = true then (if t503 = t507 then (if (strOfNums t510).toList = (strOfNums t514).toList then (if t511 = t515 then ((darningref4_SameEdits.f kj5 t518 t522).bind fun t532 => (if t532 = true then (if t519 = t523 then ((image_Is.f kj5 l0 a3).bind fun t533 => (if bt526.2 = true then ((darningref4_Is.f kj5 bt526.1 a3).bind fun t534 => (if (t533 == (decide (t534 ≥ 0))) = true then ((image_Holds.f kj5 l0 a3 a1).bind fun t535 => ((darningref4_Within.f kj5 bt526.1 a3 a1).bind fun t536 => (if (t535 == t536) = true then ((darninglaw19_awake.f kj5).bind fun t537 => (some t537)) else (some false)))) else (some false))) else (if (t533 == false) = true then ((image_Holds.f kj5 l0 a3 a1).bind fun t538 => (if (t538 == false) = true then ((darninglaw19_awake.f kj5).bind fun t539 => (some t539)) else (some false))) else (some false)))) else (some false)) else (some false))) else (some false)) else (some false)) else (some false)) else (some false))) else (some false)) else (some false)) else (some false)))) = some true := H
  have A19 := Aside0.mk A190
  clear A190
  replace H := Option.bind_eq_some_iff.mp H
  obtain ⟨⟨t526, t527⟩, A200, H⟩ := H
  replace H : ((darningref4_SameEdits.f kj5 t492 t497).bind fun t530 => (if t530 = true then (if t493 = t498 then (if t494 = t499 then ((darningref4_SameEdits.f kj5 t502 t506).bind fun t531 => (if t531 = true then (if t503 = t507 then (if (strOfNums t510).toList = (strOfNums t514).toList then (if t511 = t515 then ((darningref4_SameEdits.f kj5 t518 t522).bind fun t532 => (if t532 = true then (if t519 = t523 then ((image_Is.f kj5 l0 a3).bind fun t533 => (if t527 = true then ((darningref4_Is.f kj5 t526 a3).bind fun t534 => (if (t533 == (decide (t534 ≥ 0))) = true then ((image_Holds.f kj5 l0 a3 a1).bind fun t535 => ((darningref4_Within.f kj5 t526 a3 a1).bind fun t536 => (if (t535 == t536) = true then ((darninglaw19_awake.f kj5).bind fun t537 => (some t537)) else (some false)))) else (some false))) else (if (t533 == false) = true then ((image_Holds.f kj5 l0 a3 a1).bind fun t538 => (if (t538 == false) = true then ((darninglaw19_awake.f kj5).bind fun t539 => (some t539)) else (some false))) else (some false)))) else (some false)) else (some false))) else (some false)) else (some false)) else (some false)) else (some false))) else (some false)) else (some false)) else (some false))) = some true := H
  have A20 := Aside0.mk A200
  clear A200
  replace H := Option.bind_eq_some_iff.mp H
  obtain ⟨t530, A210, H⟩ := H
  replace H : (if t530 = true then (if t493 = t498 then (if t494 = t499 then ((darningref4_SameEdits.f kj5 t502 t506).bind fun t531 => (if t531 = true then (if t503 = t507 then (if (strOfNums t510).toList = (strOfNums t514).toList then (if t511 = t515 then ((darningref4_SameEdits.f kj5 t518 t522).bind fun t532 => (if t532 = true then (if t519 = t523 then ((image_Is.f kj5 l0 a3).bind fun t533 => (if t527 = true then ((darningref4_Is.f kj5 t526 a3).bind fun t534 => (if (t533 == (decide (t534 ≥ 0))) = true then ((image_Holds.f kj5 l0 a3 a1).bind fun t535 => ((darningref4_Within.f kj5 t526 a3 a1).bind fun t536 => (if (t535 == t536) = true then ((darninglaw19_awake.f kj5).bind fun t537 => (some t537)) else (some false)))) else (some false))) else (if (t533 == false) = true then ((image_Holds.f kj5 l0 a3 a1).bind fun t538 => (if (t538 == false) = true then ((darninglaw19_awake.f kj5).bind fun t539 => (some t539)) else (some false))) else (some false)))) else (some false)) else (some false))) else (some false)) else (some false)) else (some false)) else (some false))) else (some false)) else (some false)) else (some false)) = some true := H
  have A21 := Aside0.mk A210
  clear A210
  by_cases c22 : t530 = true
  rotate_left
  ·
   replace c22 := Bool.eq_false_iff.mpr c22
   subst c22
   have H1 : (some false) = some true := by rw [if_neg (show ¬ (false = true) by decide)] at H; exact H
   clear H
   have H := H1
   clear H1
   exact absurd H (by simp)
  subst c22
  have H1 : (if t493 = t498 then (if t494 = t499 then ((darningref4_SameEdits.f kj5 t502 t506).bind fun t531 => (if t531 = true then (if t503 = t507 then (if (strOfNums t510).toList = (strOfNums t514).toList then (if t511 = t515 then ((darningref4_SameEdits.f kj5 t518 t522).bind fun t532 => (if t532 = true then (if t519 = t523 then ((image_Is.f kj5 l0 a3).bind fun t533 => (if t527 = true then ((darningref4_Is.f kj5 t526 a3).bind fun t534 => (if (t533 == (decide (t534 ≥ 0))) = true then ((image_Holds.f kj5 l0 a3 a1).bind fun t535 => ((darningref4_Within.f kj5 t526 a3 a1).bind fun t536 => (if (t535 == t536) = true then ((darninglaw19_awake.f kj5).bind fun t537 => (some t537)) else (some false)))) else (some false))) else (if (t533 == false) = true then ((image_Holds.f kj5 l0 a3 a1).bind fun t538 => (if (t538 == false) = true then ((darninglaw19_awake.f kj5).bind fun t539 => (some t539)) else (some false))) else (some false)))) else (some false)) else (some false))) else (some false)) else (some false)) else (some false)) else (some false))) else (some false)) else (some false)) = some true := by rw [if_pos rfl] at H; exact H
  clear H
  have H := H1
  clear H1
  by_cases c23 : t493 = t498
  rotate_left
  ·
   rw [if_neg c23] at H
   have c23b0 : (t493 == t498) = false := beq_eq_false_iff_ne.mpr c23
   have c23b1 : (t493 != t498) = true := bne_iff_ne.mpr c23
   exact absurd H (by simp)
  rw [if_pos c23] at H
  have c23b0 : (t493 == t498) = true := beq_iff_eq.mpr c23
  have c23b1 : (t493 != t498) = false := bne_eq_false_iff_eq.mpr c23
  clear c23
  by_cases c24 : t494 = t499
  rotate_left
  ·
   rw [if_neg c24] at H
   have c24b0 : (t494 == t499) = false := beq_eq_false_iff_ne.mpr c24
   have c24b1 : (t494 != t499) = true := bne_iff_ne.mpr c24
   exact absurd H (by simp)
  rw [if_pos c24] at H
  have c24b0 : (t494 == t499) = true := beq_iff_eq.mpr c24
  have c24b1 : (t494 != t499) = false := bne_eq_false_iff_eq.mpr c24
  clear c24
  replace H := Option.bind_eq_some_iff.mp H
  obtain ⟨t531, A250, H⟩ := H
  replace H : (if t531 = true then (if t503 = t507 then (if (strOfNums t510).toList = (strOfNums t514).toList then (if t511 = t515 then ((darningref4_SameEdits.f kj5 t518 t522).bind fun t532 => (if t532 = true then (if t519 = t523 then ((image_Is.f kj5 l0 a3).bind fun t533 => (if t527 = true then ((darningref4_Is.f kj5 t526 a3).bind fun t534 => (if (t533 == (decide (t534 ≥ 0))) = true then ((image_Holds.f kj5 l0 a3 a1).bind fun t535 => ((darningref4_Within.f kj5 t526 a3 a1).bind fun t536 => (if (t535 == t536) = true then ((darninglaw19_awake.f kj5).bind fun t537 => (some t537)) else (some false)))) else (some false))) else (if (t533 == false) = true then ((image_Holds.f kj5 l0 a3 a1).bind fun t538 => (if (t538 == false) = true then ((darninglaw19_awake.f kj5).bind fun t539 => (some t539)) else (some false))) else (some false)))) else (some false)) else (some false))) else (some false)) else (some false)) else (some false)) else (some false)) = some true := H
  have A25 := Aside0.mk A250
  clear A250
  by_cases c26 : t531 = true
  rotate_left
  ·
   replace c26 := Bool.eq_false_iff.mpr c26
   subst c26
   have H1 : (some false) = some true := by rw [if_neg (show ¬ (false = true) by decide)] at H; exact H
   clear H
   have H := H1
   clear H1
   exact absurd H (by simp)
  subst c26
  have H1 : (if t503 = t507 then (if (strOfNums t510).toList = (strOfNums t514).toList then (if t511 = t515 then ((darningref4_SameEdits.f kj5 t518 t522).bind fun t532 => (if t532 = true then (if t519 = t523 then ((image_Is.f kj5 l0 a3).bind fun t533 => (if t527 = true then ((darningref4_Is.f kj5 t526 a3).bind fun t534 => (if (t533 == (decide (t534 ≥ 0))) = true then ((image_Holds.f kj5 l0 a3 a1).bind fun t535 => ((darningref4_Within.f kj5 t526 a3 a1).bind fun t536 => (if (t535 == t536) = true then ((darninglaw19_awake.f kj5).bind fun t537 => (some t537)) else (some false)))) else (some false))) else (if (t533 == false) = true then ((image_Holds.f kj5 l0 a3 a1).bind fun t538 => (if (t538 == false) = true then ((darninglaw19_awake.f kj5).bind fun t539 => (some t539)) else (some false))) else (some false)))) else (some false)) else (some false))) else (some false)) else (some false)) else (some false)) = some true := by rw [if_pos rfl] at H; exact H
  clear H
  have H := H1
  clear H1
  by_cases c27 : t503 = t507
  rotate_left
  ·
   rw [if_neg c27] at H
   have c27b0 : (t503 == t507) = false := beq_eq_false_iff_ne.mpr c27
   have c27b1 : (t503 != t507) = true := bne_iff_ne.mpr c27
   exact absurd H (by simp)
  rw [if_pos c27] at H
  have c27b0 : (t503 == t507) = true := beq_iff_eq.mpr c27
  have c27b1 : (t503 != t507) = false := bne_eq_false_iff_eq.mpr c27
  clear c27
  by_cases c28 : (strOfNums t510).toList = (strOfNums t514).toList
  rotate_left
  ·
   rw [if_neg c28] at H
   have c28b0 : ((strOfNums t510).toList == (strOfNums t514).toList) = false := beq_eq_false_iff_ne.mpr c28
   have c28b1 : ((strOfNums t510).toList != (strOfNums t514).toList) = true := bne_iff_ne.mpr c28
   exact absurd H (by simp)
  rw [if_pos c28] at H
  have c28b0 : ((strOfNums t510).toList == (strOfNums t514).toList) = true := beq_iff_eq.mpr c28
  have c28b1 : ((strOfNums t510).toList != (strOfNums t514).toList) = false := bne_eq_false_iff_eq.mpr c28
  clear c28
  by_cases c29 : t511 = t515
  rotate_left
  ·
   rw [if_neg c29] at H
   have c29b0 : (t511 == t515) = false := beq_eq_false_iff_ne.mpr c29
   have c29b1 : (t511 != t515) = true := bne_iff_ne.mpr c29
   exact absurd H (by simp)
  rw [if_pos c29] at H
  have c29b0 : (t511 == t515) = true := beq_iff_eq.mpr c29
  have c29b1 : (t511 != t515) = false := bne_eq_false_iff_eq.mpr c29
  clear c29
  replace H := Option.bind_eq_some_iff.mp H
  obtain ⟨t532, A300, H⟩ := H
  replace H : (if t532 = true then (if t519 = t523 then ((image_Is.f kj5 l0 a3).bind fun t533 => (if t527 = true then ((darningref4_Is.f kj5 t526 a3).bind fun t534 => (if (t533 == (decide (t534 ≥ 0))) = true then ((image_Holds.f kj5 l0 a3 a1).bind fun t535 => ((darningref4_Within.f kj5 t526 a3 a1).bind fun t536 => (if (t535 == t536) = true then ((darninglaw19_awake.f kj5).bind fun t537 => (some t537)) else (some false)))) else (some false))) else (if (t533 == false) = true then ((image_Holds.f kj5 l0 a3 a1).bind fun t538 => (if (t538 == false) = true then ((darninglaw19_awake.f kj5).bind fun t539 => (some t539)) else (some false))) else (some false)))) else (some false)) else (some false)) = some true := H
  have A30 := Aside0.mk A300
  clear A300
  by_cases c31 : t532 = true
  rotate_left
  ·
   replace c31 := Bool.eq_false_iff.mpr c31
   subst c31
   have H1 : (some false) = some true := by rw [if_neg (show ¬ (false = true) by decide)] at H; exact H
   clear H
   have H := H1
   clear H1
   exact absurd H (by simp)
  subst c31
  have H1 : (if t519 = t523 then ((image_Is.f kj5 l0 a3).bind fun t533 => (if t527 = true then ((darningref4_Is.f kj5 t526 a3).bind fun t534 => (if (t533 == (decide (t534 ≥ 0))) = true then ((image_Holds.f kj5 l0 a3 a1).bind fun t535 => ((darningref4_Within.f kj5 t526 a3 a1).bind fun t536 => (if (t535 == t536) = true then ((darninglaw19_awake.f kj5).bind fun t537 => (some t537)) else (some false)))) else (some false))) else (if (t533 == false) = true then ((image_Holds.f kj5 l0 a3 a1).bind fun t538 => (if (t538 == false) = true then ((darninglaw19_awake.f kj5).bind fun t539 => (some t539)) else (some false))) else (some false)))) else (some false)) = some true := by rw [if_pos rfl] at H; exact H
  clear H
  have H := H1
  clear H1
  by_cases c32 : t519 = t523
  rotate_left
  ·
   rw [if_neg c32] at H
   have c32b0 : (t519 == t523) = false := beq_eq_false_iff_ne.mpr c32
   have c32b1 : (t519 != t523) = true := bne_iff_ne.mpr c32
   exact absurd H (by simp)
  rw [if_pos c32] at H
  have c32b0 : (t519 == t523) = true := beq_iff_eq.mpr c32
  have c32b1 : (t519 != t523) = false := bne_eq_false_iff_eq.mpr c32
  clear c32
  replace H := Option.bind_eq_some_iff.mp H
  obtain ⟨t533, A330, H⟩ := H
  replace H : (if t527 = true then ((darningref4_Is.f kj5 t526 a3).bind fun t534 => (if (t533 == (decide (t534 ≥ 0))) = true then ((image_Holds.f kj5 l0 a3 a1).bind fun t535 => ((darningref4_Within.f kj5 t526 a3 a1).bind fun t536 => (if (t535 == t536) = true then ((darninglaw19_awake.f kj5).bind fun t537 => (some t537)) else (some false)))) else (some false))) else (if (t533 == false) = true then ((image_Holds.f kj5 l0 a3 a1).bind fun t538 => (if (t538 == false) = true then ((darninglaw19_awake.f kj5).bind fun t539 => (some t539)) else (some false))) else (some false))) = some true := H
  have A33 := Aside0.mk A330
  clear A330
  by_cases c34 : t527 = true
  rotate_left
  ·
   replace c34 := Bool.eq_false_iff.mpr c34
   subst c34
   have H1 : (if (t533 == false) = true then ((image_Holds.f kj5 l0 a3 a1).bind fun t538 => (if (t538 == false) = true then ((darninglaw19_awake.f kj5).bind fun t539 => (some t539)) else (some false))) else (some false)) = some true := by rw [if_neg (show ¬ (false = true) by decide)] at H; exact H
   clear H
   have H := H1
   clear H1
   by_cases c64 : (t533 == false) = true
   rotate_left
   ·
    rw [if_neg c64] at H
    have c64b0 : (t533 == false) = false := by simpa using c64
    (try (have c64b1 : decide (t533 = false) = false := by simpa using c64))
    (try (have c64b2 : (t533 == false) = false := by simpa using c64))
    (try (have c64b3 : ¬ (t533 = false) := by simpa using c64))
    clear c64
    exact absurd H (by simp)
   rw [if_pos c64] at H
   have c64b0 : (t533 == false) = true := c64
   (try (have c64b1 : decide (t533 = false) = true := by simpa using c64))
   (try (have c64b2 : (t533 == false) = true := by simpa using c64))
   clear c64
   replace H := Option.bind_eq_some_iff.mp H
   obtain ⟨t538, A650, H⟩ := H
   replace H : (if (t538 == false) = true then ((darninglaw19_awake.f kj5).bind fun t539 => (some t539)) else (some false)) = some true := H
   have A65 := Aside0.mk A650
   clear A650
   by_cases c66 : (t538 == false) = true
   rotate_left
   ·
    rw [if_neg c66] at H
    have c66b0 : (t538 == false) = false := by simpa using c66
    (try (have c66b1 : decide (t538 = false) = false := by simpa using c66))
    (try (have c66b2 : (t538 == false) = false := by simpa using c66))
    (try (have c66b3 : ¬ (t538 = false) := by simpa using c66))
    clear c66
    exact absurd H (by simp)
   rw [if_pos c66] at H
   have c66b0 : (t538 == false) = true := c66
   (try (have c66b1 : decide (t538 = false) = true := by simpa using c66))
   (try (have c66b2 : (t538 == false) = true := by simpa using c66))
   clear c66
   replace H := Option.bind_eq_some_iff.mp H
   obtain ⟨t539, A670, H⟩ := H
   replace H : (some t539) = some true := H
   have A67 := Aside0.mk A670
   clear A670
   obtain rfl : t539 = true := Option.some.inj H
   go_wp2_with (first | ((with_reducible refine gate_callee (f := 39) rfl ?_); refine goesL_ (some 49) rfl rfl Try.func39 (by kernel_rfl) rfl #[.slice A0 l0.length c0, .int .i64 a1, .slice A2 l2.length c2] rfl (by (try simp only [qj, qk, ql]); first | done | rfl | (simp only [qm, qn]; rfl)) ?_; (with_reducible refine (image_Alloc.calls kj5 _ _ l0 a1 _ _ l2 t492 t493 t494 _ ?side1 ?side2 ?side3 ?side4 A12.out).mono ?_); (case side1 => exact zc (Kd.C_below HR0.out HB.out)); (case side2 => exact HC0.out); (case side3 => exact zc (Kd.C_below HR2.out HB.out)); (case side4 => exact HC2.out); rintro e w68 ⟨v495, rfl, ho0, hb⟩; refine ⟨_, rfl, ?_⟩; have n0_ := Aside0.mk (Kd.R_lower ho0 (below_size (zB HB))); have n1_ := zb HB hb; clear HB; have HO496 := n0_; have HB := n1_; clear n0_ n1_; (try clear hb); (try clear ho0)) | ((with_reducible refine gate_callee (f := 45) rfl ?_); refine goesL_ (some 57) rfl rfl Try.func45 (by kernel_rfl) rfl #[.slice A0 l0.length c0, .int .i64 a1, .slice A2 l2.length c2] rfl (by (try simp only [qj, qk, ql]); first | done | rfl | (simp only [qm, qn]; rfl)) ?_; (with_reducible refine (darningref4_ImageAlloc.calls kj5 _ _ l0 a1 _ _ l2 t497 t498 t499 _ ?side1 ?side2 ?side3 ?side4 A13.out).mono ?_); (case side1 => exact zc (Kd.C_below HR0.out HB.out)); (case side2 => exact HC0.out); (case side3 => exact zc (Kd.C_below HR2.out HB.out)); (case side4 => exact HC2.out); rintro e w69 ⟨v500, rfl, ho0, hb⟩; refine ⟨_, rfl, ?_⟩; have n0_ := Aside0.mk (Kd.R_elder' (zr HO496) (Kd.R_base ho0) hb); have n1_ := Aside0.mk (Kd.R_lower (Kd.R_new' ho0 (Kd.R_lt (zr HO496))) (below_size (zB HB))); have n2_ := zb HB hb; clear HO496; clear HB; have HO496 := n0_; have HO501 := n1_; have HB := n2_; clear n0_ n1_ n2_; (try clear hb); (try clear ho0)) | ((with_reducible refine gate_callee (f := 46) rfl ?_); refine goesL_ (some 64) rfl rfl Try.func46 (by kernel_rfl) rfl #[.slice A0 l0.length c0, .int .i64 a3] rfl (by (try simp only [qj, qk, ql]); first | done | rfl | (simp only [qm, qn]; rfl)) ?_; (with_reducible refine (image_Free.calls kj5 _ _ l0 a3 t502 t503 _ ?side1 ?side2 A14.out).mono ?_); (case side1 => exact zc (Kd.C_below HR0.out HB.out)); (case side2 => exact HC0.out); rintro e w70 ⟨v504, rfl, ho0, hb⟩; refine ⟨_, rfl, ?_⟩; have n0_ := Aside0.mk (Kd.R_elder' (zr HO496) (Kd.R_base ho0) hb); have n1_ := Aside0.mk (Kd.R_elder' (zr HO501) (Kd.R_base ho0) hb); have n2_ := Aside0.mk (Kd.R_lower (Kd.R_new' (Kd.R_new' ho0 (Kd.R_lt (zr HO496))) (Kd.R_lt (zr HO501))) (below_size (zB HB))); have n3_ := zb HB hb; clear HO496; clear HO501; clear HB; have HO496 := n0_; have HO501 := n1_; have HO505 := n2_; have HB := n3_; clear n0_ n1_ n2_ n3_; (try clear hb); (try clear ho0)) | ((with_reducible refine gate_callee (f := 47) rfl ?_); refine goesL_ (some 70) rfl rfl Try.func47 (by kernel_rfl) rfl #[.slice A0 l0.length c0, .int .i64 a3] rfl (by (try simp only [qj, qk, ql]); first | done | rfl | (simp only [qm, qn]; rfl)) ?_; (with_reducible refine (darningref4_ImageFree.calls kj5 _ _ l0 a3 t506 t507 _ ?side1 ?side2 A15.out).mono ?_); (case side1 => exact zc (Kd.C_below HR0.out HB.out)); (case side2 => exact HC0.out); rintro e w71 ⟨v508, rfl, ho0, hb⟩; refine ⟨_, rfl, ?_⟩; have n0_ := Aside0.mk (Kd.R_elder' (zr HO496) (Kd.R_base ho0) hb); have n1_ := Aside0.mk (Kd.R_elder' (zr HO501) (Kd.R_base ho0) hb); have n2_ := Aside0.mk (Kd.R_elder' (zr HO505) (Kd.R_base ho0) hb); have n3_ := Aside0.mk (Kd.R_lower (Kd.R_new' (Kd.R_new' (Kd.R_new' ho0 (Kd.R_lt (zr HO496))) (Kd.R_lt (zr HO501))) (Kd.R_lt (zr HO505))) (below_size (zB HB))); have n4_ := zb HB hb; clear HO496; clear HO501; clear HO505; clear HB; have HO496 := n0_; have HO501 := n1_; have HO505 := n2_; have HO509 := n3_; have HB := n4_; clear n0_ n1_ n2_ n3_ n4_; (try clear hb); (try clear ho0)) | ((with_reducible refine gate_callee (f := 48) rfl ?_); refine goesL_ (some 77) rfl rfl Try.func48 (by kernel_rfl) rfl #[.slice A0 l0.length c0, .int .i64 a3, .int .i64 a1] rfl (by (try simp only [qj, qk, ql]); first | done | rfl | (simp only [qm, qn]; rfl)) ?_; (with_reducible refine (image_Read.calls kj5 _ _ l0 a3 a1 t510 t511 _ ?side1 ?side2 A16.out).mono ?_); (case side1 => exact zc (Kd.C_below HR0.out HB.out)); (case side2 => exact HC0.out); rintro e w72 ⟨v512, rfl, ho0, hb⟩; refine ⟨_, rfl, ?_⟩; have n0_ := za HO496 hb; have n1_ := za HO501 hb; have n2_ := za HO505 hb; have n3_ := za HO509 hb; have n4_ := Aside0.mk (Kd.R_lower ho0 (below_size (zB HB))); have n5_ := zb HB hb; clear HO496; clear HO501; clear HO505; clear HO509; clear HB; have HO496 := n0_; have HO501 := n1_; have HO505 := n2_; have HO509 := n3_; have HO513 := n4_; have HB := n5_; clear n0_ n1_ n2_ n3_ n4_ n5_; (try clear hb); (try clear ho0)) | ((with_reducible refine gate_callee (f := 49) rfl ?_); refine goesL_ (some 84) rfl rfl Try.func49 (by kernel_rfl) rfl #[.slice A0 l0.length c0, .int .i64 a3, .int .i64 a1] rfl (by (try simp only [qj, qk, ql]); first | done | rfl | (simp only [qm, qn]; rfl)) ?_; (with_reducible refine (darningref4_ImageRead.calls kj5 _ _ l0 a3 a1 t514 t515 _ ?side1 ?side2 A17.out).mono ?_); (case side1 => exact zc (Kd.C_below HR0.out HB.out)); (case side2 => exact HC0.out); rintro e w73 ⟨v516, rfl, ho0, hb⟩; refine ⟨_, rfl, ?_⟩; have n0_ := za HO496 hb; have n1_ := za HO501 hb; have n2_ := za HO505 hb; have n3_ := za HO509 hb; have n4_ := Aside0.mk (Kd.R_elder' (zr HO513) (Kd.R_base ho0) hb); have n5_ := Aside0.mk (Kd.R_lower (Kd.R_new' ho0 (Kd.R_lt (zr HO513))) (below_size (zB HB))); have n6_ := zb HB hb; clear HO496; clear HO501; clear HO505; clear HO509; clear HO513; clear HB; have HO496 := n0_; have HO501 := n1_; have HO505 := n2_; have HO509 := n3_; have HO513 := n4_; have HO517 := n5_; have HB := n6_; clear n0_ n1_ n2_ n3_ n4_ n5_ n6_; (try clear hb); (try clear ho0)) | ((with_reducible refine gate_callee (f := 50) rfl ?_); refine goesL_ (some 91) rfl rfl Try.func50 (by kernel_rfl) rfl #[.slice A0 l0.length c0, .int .i64 a3, .slice A4 l4.length c4] rfl (by (try simp only [qj, qk, ql]); first | done | rfl | (simp only [qm, qn]; rfl)) ?_; (with_reducible refine (image_Write.calls kj5 _ _ l0 a3 _ _ l4 t518 t519 _ ?side1 ?side2 ?side3 ?side4 A18.out).mono ?_); (case side1 => exact zc (Kd.C_below HR0.out HB.out)); (case side2 => exact HC0.out); (case side3 => exact zc (Kd.C_below HR4.out HB.out)); (case side4 => exact HC4.out); rintro e w74 ⟨v520, rfl, ho0, hb⟩; refine ⟨_, rfl, ?_⟩; have n0_ := Aside0.mk (Kd.R_elder' (zr HO496) (Kd.R_base ho0) hb); have n1_ := Aside0.mk (Kd.R_elder' (zr HO501) (Kd.R_base ho0) hb); have n2_ := Aside0.mk (Kd.R_elder' (zr HO505) (Kd.R_base ho0) hb); have n3_ := Aside0.mk (Kd.R_elder' (zr HO509) (Kd.R_base ho0) hb); have n4_ := za HO513 hb; have n5_ := za HO517 hb; have n6_ := Aside0.mk (Kd.R_lower (Kd.R_new' (Kd.R_new' (Kd.R_new' (Kd.R_new' ho0 (Kd.R_lt (zr HO496))) (Kd.R_lt (zr HO501))) (Kd.R_lt (zr HO505))) (Kd.R_lt (zr HO509))) (below_size (zB HB))); have n7_ := zb HB hb; clear HO496; clear HO501; clear HO505; clear HO509; clear HO513; clear HO517; clear HB; have HO496 := n0_; have HO501 := n1_; have HO505 := n2_; have HO509 := n3_; have HO513 := n4_; have HO517 := n5_; have HO521 := n6_; have HB := n7_; clear n0_ n1_ n2_ n3_ n4_ n5_ n6_ n7_; (try clear hb); (try clear ho0)) | ((with_reducible refine gate_callee (f := 51) rfl ?_); refine goesL_ (some 98) rfl rfl Try.func51 (by kernel_rfl) rfl #[.slice A0 l0.length c0, .int .i64 a3, .slice A4 l4.length c4] rfl (by (try simp only [qj, qk, ql]); first | done | rfl | (simp only [qm, qn]; rfl)) ?_; (with_reducible refine (darningref4_ImageWrite.calls kj5 _ _ l0 a3 _ _ l4 t522 t523 _ ?side1 ?side2 ?side3 ?side4 A19.out).mono ?_); (case side1 => exact zc (Kd.C_below HR0.out HB.out)); (case side2 => exact HC0.out); (case side3 => exact zc (Kd.C_below HR4.out HB.out)); (case side4 => exact HC4.out); rintro e w75 ⟨v524, rfl, ho0, hb⟩; refine ⟨_, rfl, ?_⟩; have n0_ := Aside0.mk (Kd.R_elder' (zr HO496) (Kd.R_base ho0) hb); have n1_ := Aside0.mk (Kd.R_elder' (zr HO501) (Kd.R_base ho0) hb); have n2_ := Aside0.mk (Kd.R_elder' (zr HO505) (Kd.R_base ho0) hb); have n3_ := Aside0.mk (Kd.R_elder' (zr HO509) (Kd.R_base ho0) hb); have n4_ := za HO513 hb; have n5_ := za HO517 hb; have n6_ := Aside0.mk (Kd.R_elder' (zr HO521) (Kd.R_base ho0) hb); have n7_ := Aside0.mk (Kd.R_lower (Kd.R_new' (Kd.R_new' (Kd.R_new' (Kd.R_new' (Kd.R_new' ho0 (Kd.R_lt (zr HO496))) (Kd.R_lt (zr HO501))) (Kd.R_lt (zr HO505))) (Kd.R_lt (zr HO509))) (Kd.R_lt (zr HO521))) (below_size (zB HB))); have n8_ := zb HB hb; clear HO496; clear HO501; clear HO505; clear HO509; clear HO513; clear HO517; clear HO521; clear HB; have HO496 := n0_; have HO501 := n1_; have HO505 := n2_; have HO509 := n3_; have HO513 := n4_; have HO517 := n5_; have HO521 := n6_; have HO525 := n7_; have HB := n8_; clear n0_ n1_ n2_ n3_ n4_ n5_ n6_ n7_ n8_; (try clear hb); (try clear ho0)) | ((with_reducible refine gate_callee (f := 52) rfl ?_); refine goesL_ (some 103) rfl rfl Try.func52 (by kernel_rfl) rfl #[.slice A0 l0.length c0] rfl (by (try simp only [qj, qk, ql]); first | done | rfl | (simp only [qm, qn]; rfl)) ?_; (with_reducible refine (darningref4_Blocks.calls kj5 _ _ l0 t526 false _ ?side1 ?side2 A20.out).mono ?_); (case side1 => exact zc (Kd.C_below HR0.out HB.out)); (case side2 => exact HC0.out); rintro e w76 ⟨v528, rfl, ho0, hb⟩; refine ⟨_, rfl, ?_⟩; have n0_ := za HO496 hb; have n1_ := za HO501 hb; have n2_ := za HO505 hb; have n3_ := za HO509 hb; have n4_ := za HO513 hb; have n5_ := za HO517 hb; have n6_ := za HO521 hb; have n7_ := za HO525 hb; have n8_ := Aside0.mk (Kd.R_lower ho0 (below_size (zB HB))); have n9_ := zb HB hb; clear HO496; clear HO501; clear HO505; clear HO509; clear HO513; clear HO517; clear HO521; clear HO525; clear HB; have HO496 := n0_; have HO501 := n1_; have HO505 := n2_; have HO509 := n3_; have HO513 := n4_; have HO517 := n5_; have HO521 := n6_; have HO525 := n7_; have HO529 := n8_; have HB := n9_; clear n0_ n1_ n2_ n3_ n4_ n5_ n6_ n7_ n8_ n9_; (try clear hb); (try clear ho0); obtain ⟨Ao77, co77, eo77⟩ := Kd.R_slice HO496.out; subst eo77; obtain ⟨Ao78, co78, eo78⟩ := Kd.R_slice HO501.out; subst eo78) | (go_at_call 25; (with_reducible refine (darningref4_SameEdits.calls kj5 _ _ t492 _ _ t497 true _ ?side1 ?side2 ?side3 ?side4 A21.out).mono ?_); (case side1 => exact zc (Kd.R_reads' HO496.out).2.2); (case side2 => exact (Kd.R_reads' HO496.out).2.1); (case side3 => exact zc (Kd.R_reads' HO501.out).2.2); (case side4 => exact (Kd.R_reads' HO501.out).2.1); rintro e w' ⟨rfl, ⟨nd, rfl⟩⟩; obtain ⟨Ao79, co79, eo79⟩ := Kd.R_slice HO505.out; subst eo79; obtain ⟨Ao80, co80, eo80⟩ := Kd.R_slice HO509.out; subst eo80) | (go_at_call 25; (with_reducible refine (darningref4_SameEdits.calls kj5 _ _ t502 _ _ t506 true _ ?side1 ?side2 ?side3 ?side4 A25.out).mono ?_); (case side1 => exact zc (Kd.R_reads' HO505.out).2.2); (case side2 => exact (Kd.R_reads' HO505.out).2.1); (case side3 => exact zc (Kd.R_reads' HO509.out).2.2); (case side4 => exact (Kd.R_reads' HO509.out).2.1); rintro e w' ⟨rfl, ⟨nd, rfl⟩⟩; have hcv81 := fun nd_ : Nat => own_string (P := Try.prog) (w := w76.drewN nd_) Try.underlying63 Try.underlying5 Try.underlying9 (Kd.own_of_R (zr HO513)); have hcv82 := fun nd_ : Nat => own_string (P := Try.prog) (w := w76.drewN nd_) Try.underlying63 Try.underlying5 Try.underlying9 (Kd.own_of_R (zr HO517)); obtain ⟨Ao83, co83, eo83⟩ := Kd.R_slice HO521.out; subst eo83; obtain ⟨Ao84, co84, eo84⟩ := Kd.R_slice HO525.out; subst eo84) | (go_at_call 25; (with_reducible refine (darningref4_SameEdits.calls kj5 _ _ t518 _ _ t522 true _ ?side1 ?side2 ?side3 ?side4 A30.out).mono ?_); (case side1 => exact zc (Kd.R_reads' HO521.out).2.2); (case side2 => exact (Kd.R_reads' HO521.out).2.1); (case side3 => exact zc (Kd.R_reads' HO525.out).2.2); (case side4 => exact (Kd.R_reads' HO525.out).2.1); rintro e w' ⟨rfl, ⟨nd, rfl⟩⟩) | (go_at_call 43; (with_reducible refine (image_Is.calls kj5 _ _ l0 a3 t533 _ ?side1 ?side2 A33.out).mono ?_); (case side1 => exact zc (Kd.C_below HR0.out (zB HB))); (case side2 => exact HC0.out); rintro e w85 ⟨rfl, hb⟩; have n0_ := za HO496 hb; have n1_ := za HO501 hb; have n2_ := za HO505 hb; have n3_ := za HO509 hb; have n4_ := za HO513 hb; have n5_ := za HO517 hb; have n6_ := za HO521 hb; have n7_ := za HO525 hb; have n8_ := za HO529 hb; have n9_ := zb HB hb; replace HO496 := n0_; replace HO501 := n1_; replace HO505 := n2_; replace HO509 := n3_; replace HO513 := n4_; replace HO517 := n5_; replace HO521 := n6_; replace HO525 := n7_; replace HO529 := n8_; replace HB := n9_; clear n0_ n1_ n2_ n3_ n4_ n5_ n6_ n7_ n8_ n9_; (try clear hb)) | (go_at_call 42; (with_reducible refine (image_Holds.calls kj5 _ _ l0 a3 a1 t538 _ ?side1 ?side2 A65.out).mono ?_); (case side1 => exact zc (Kd.C_below HR0.out HB.out)); (case side2 => exact HC0.out); rintro e w86 ⟨rfl, hb⟩; have n0_ := za HO496 hb; have n1_ := za HO501 hb; have n2_ := za HO505 hb; have n3_ := za HO509 hb; have n4_ := za HO513 hb; have n5_ := za HO517 hb; have n6_ := za HO521 hb; have n7_ := za HO525 hb; have n8_ := za HO529 hb; have n9_ := zb HB hb; replace HO496 := n0_; replace HO501 := n1_; replace HO505 := n2_; replace HO509 := n3_; replace HO513 := n4_; replace HO517 := n5_; replace HO521 := n6_; replace HO525 := n7_; replace HO529 := n8_; replace HB := n9_; clear n0_ n1_ n2_ n3_ n4_ n5_ n6_ n7_ n8_ n9_; (try clear hb)) | (go_at_call 40; (with_reducible refine (darninglaw19_awake.calls kj5   _ A67.out).mono ?_); rintro e w87 ⟨rfl, hb⟩; have n0_ := za HO496 hb; have n1_ := za HO501 hb; have n2_ := za HO505 hb; have n3_ := za HO509 hb; have n4_ := za HO513 hb; have n5_ := za HO517 hb; have n6_ := za HO521 hb; have n7_ := za HO525 hb; have n8_ := za HO529 hb; have n9_ := zb HB hb; replace HO496 := n0_; replace HO501 := n1_; replace HO505 := n2_; replace HO509 := n3_; replace HO513 := n4_; replace HO517 := n5_; replace HO521 := n6_; replace HO525 := n7_; replace HO529 := n8_; replace HB := n9_; clear n0_ n1_ n2_ n3_ n4_ n5_ n6_ n7_ n8_ n9_; (try clear hb)))
   go_ret
   exact ⟨by first | rfl | (rw [HRA_.out]) | (simp only [HRA_.out]; done) | (simp only [← HRA_.out]; done) | (have HR_ := HRA_.out; simp_all) | (simp [errW_none, errW_some] <;> rfl) | (simp [*, errW_none, errW_some] <;> rfl), zB HB⟩
  subst c34
  have H1 : ((darningref4_Is.f kj5 t526 a3).bind fun t534 => (if (t533 == (decide (t534 ≥ 0))) = true then ((image_Holds.f kj5 l0 a3 a1).bind fun t535 => ((darningref4_Within.f kj5 t526 a3 a1).bind fun t536 => (if (t535 == t536) = true then ((darninglaw19_awake.f kj5).bind fun t537 => (some t537)) else (some false)))) else (some false))) = some true := by rw [if_pos rfl] at H; exact H
  clear H
  have H := H1
  clear H1
  replace H := Option.bind_eq_some_iff.mp H
  obtain ⟨t534, A350, H⟩ := H
  replace H : (if (t533 == (decide (t534 ≥ 0))) = true then ((image_Holds.f kj5 l0 a3 a1).bind fun t535 => ((darningref4_Within.f kj5 t526 a3 a1).bind fun t536 => (if (t535 == t536) = true then ((darninglaw19_awake.f kj5).bind fun t537 => (some t537)) else (some false)))) else (some false)) = some true := H
  have A35 := Aside0.mk A350
  clear A350
  by_cases c36 : (t533 == (decide (t534 ≥ 0))) = true
  rotate_left
  ·
   rw [if_neg c36] at H
   have c36b0 : (t533 == (decide (t534 ≥ 0))) = false := by simpa using c36
   (try (have c36b1 : decide (t533 = (decide (t534 ≥ 0))) = false := by simpa using c36))
   (try (have c36b2 : (t533 == (decide (t534 ≥ 0))) = false := by simpa using c36))
   (try (have c36b3 : ¬ (t533 = (decide (t534 ≥ 0))) := by simpa using c36))
   clear c36
   exact absurd H (by simp)
  rw [if_pos c36] at H
  have c36b0 : (t533 == (decide (t534 ≥ 0))) = true := c36
  (try (have c36b1 : decide (t533 = (decide (t534 ≥ 0))) = true := by simpa using c36))
  (try (have c36b2 : (t533 == (decide (t534 ≥ 0))) = true := by simpa using c36))
  clear c36
  replace H := Option.bind_eq_some_iff.mp H
  obtain ⟨t535, A370, H⟩ := H
  replace H : ((darningref4_Within.f kj5 t526 a3 a1).bind fun t536 => (if (t535 == t536) = true then ((darninglaw19_awake.f kj5).bind fun t537 => (some t537)) else (some false))) = some true := H
  have A37 := Aside0.mk A370
  clear A370
  replace H := Option.bind_eq_some_iff.mp H
  obtain ⟨t536, A380, H⟩ := H
  replace H : (if (t535 == t536) = true then ((darninglaw19_awake.f kj5).bind fun t537 => (some t537)) else (some false)) = some true := H
  have A38 := Aside0.mk A380
  clear A380
  by_cases c39 : (t535 == t536) = true
  rotate_left
  ·
   rw [if_neg c39] at H
   have c39b0 : (t535 == t536) = false := by simpa using c39
   (try (have c39b1 : decide (t535 = t536) = false := by simpa using c39))
   (try (have c39b2 : (t535 == t536) = false := by simpa using c39))
   (try (have c39b3 : ¬ (t535 = t536) := by simpa using c39))
   clear c39
   exact absurd H (by simp)
  rw [if_pos c39] at H
  have c39b0 : (t535 == t536) = true := c39
  (try (have c39b1 : decide (t535 = t536) = true := by simpa using c39))
  (try (have c39b2 : (t535 == t536) = true := by simpa using c39))
  clear c39
  replace H := Option.bind_eq_some_iff.mp H
  obtain ⟨t537, A400, H⟩ := H
  replace H : (some t537) = some true := H
  have A40 := Aside0.mk A400
  clear A400
  obtain rfl : t537 = true := Option.some.inj H
  go_wp2_with (first | ((with_reducible refine gate_callee (f := 39) rfl ?_); refine goesL_ (some 49) rfl rfl Try.func39 (by kernel_rfl) rfl #[.slice A0 l0.length c0, .int .i64 a1, .slice A2 l2.length c2] rfl (by (try simp only [qj, qk, ql]); first | done | rfl | (simp only [qm, qn]; rfl)) ?_; (with_reducible refine (image_Alloc.calls kj5 _ _ l0 a1 _ _ l2 t492 t493 t494 _ ?side1 ?side2 ?side3 ?side4 A12.out).mono ?_); (case side1 => exact zc (Kd.C_below HR0.out HB.out)); (case side2 => exact HC0.out); (case side3 => exact zc (Kd.C_below HR2.out HB.out)); (case side4 => exact HC2.out); rintro e w41 ⟨v495, rfl, ho0, hb⟩; refine ⟨_, rfl, ?_⟩; have n0_ := Aside0.mk (Kd.R_lower ho0 (below_size (zB HB))); have n1_ := zb HB hb; clear HB; have HO496 := n0_; have HB := n1_; clear n0_ n1_; (try clear hb); (try clear ho0)) | ((with_reducible refine gate_callee (f := 45) rfl ?_); refine goesL_ (some 57) rfl rfl Try.func45 (by kernel_rfl) rfl #[.slice A0 l0.length c0, .int .i64 a1, .slice A2 l2.length c2] rfl (by (try simp only [qj, qk, ql]); first | done | rfl | (simp only [qm, qn]; rfl)) ?_; (with_reducible refine (darningref4_ImageAlloc.calls kj5 _ _ l0 a1 _ _ l2 t497 t498 t499 _ ?side1 ?side2 ?side3 ?side4 A13.out).mono ?_); (case side1 => exact zc (Kd.C_below HR0.out HB.out)); (case side2 => exact HC0.out); (case side3 => exact zc (Kd.C_below HR2.out HB.out)); (case side4 => exact HC2.out); rintro e w42 ⟨v500, rfl, ho0, hb⟩; refine ⟨_, rfl, ?_⟩; have n0_ := Aside0.mk (Kd.R_elder' (zr HO496) (Kd.R_base ho0) hb); have n1_ := Aside0.mk (Kd.R_lower (Kd.R_new' ho0 (Kd.R_lt (zr HO496))) (below_size (zB HB))); have n2_ := zb HB hb; clear HO496; clear HB; have HO496 := n0_; have HO501 := n1_; have HB := n2_; clear n0_ n1_ n2_; (try clear hb); (try clear ho0)) | ((with_reducible refine gate_callee (f := 46) rfl ?_); refine goesL_ (some 64) rfl rfl Try.func46 (by kernel_rfl) rfl #[.slice A0 l0.length c0, .int .i64 a3] rfl (by (try simp only [qj, qk, ql]); first | done | rfl | (simp only [qm, qn]; rfl)) ?_; (with_reducible refine (image_Free.calls kj5 _ _ l0 a3 t502 t503 _ ?side1 ?side2 A14.out).mono ?_); (case side1 => exact zc (Kd.C_below HR0.out HB.out)); (case side2 => exact HC0.out); rintro e w43 ⟨v504, rfl, ho0, hb⟩; refine ⟨_, rfl, ?_⟩; have n0_ := Aside0.mk (Kd.R_elder' (zr HO496) (Kd.R_base ho0) hb); have n1_ := Aside0.mk (Kd.R_elder' (zr HO501) (Kd.R_base ho0) hb); have n2_ := Aside0.mk (Kd.R_lower (Kd.R_new' (Kd.R_new' ho0 (Kd.R_lt (zr HO496))) (Kd.R_lt (zr HO501))) (below_size (zB HB))); have n3_ := zb HB hb; clear HO496; clear HO501; clear HB; have HO496 := n0_; have HO501 := n1_; have HO505 := n2_; have HB := n3_; clear n0_ n1_ n2_ n3_; (try clear hb); (try clear ho0)) | ((with_reducible refine gate_callee (f := 47) rfl ?_); refine goesL_ (some 70) rfl rfl Try.func47 (by kernel_rfl) rfl #[.slice A0 l0.length c0, .int .i64 a3] rfl (by (try simp only [qj, qk, ql]); first | done | rfl | (simp only [qm, qn]; rfl)) ?_; (with_reducible refine (darningref4_ImageFree.calls kj5 _ _ l0 a3 t506 t507 _ ?side1 ?side2 A15.out).mono ?_); (case side1 => exact zc (Kd.C_below HR0.out HB.out)); (case side2 => exact HC0.out); rintro e w44 ⟨v508, rfl, ho0, hb⟩; refine ⟨_, rfl, ?_⟩; have n0_ := Aside0.mk (Kd.R_elder' (zr HO496) (Kd.R_base ho0) hb); have n1_ := Aside0.mk (Kd.R_elder' (zr HO501) (Kd.R_base ho0) hb); have n2_ := Aside0.mk (Kd.R_elder' (zr HO505) (Kd.R_base ho0) hb); have n3_ := Aside0.mk (Kd.R_lower (Kd.R_new' (Kd.R_new' (Kd.R_new' ho0 (Kd.R_lt (zr HO496))) (Kd.R_lt (zr HO501))) (Kd.R_lt (zr HO505))) (below_size (zB HB))); have n4_ := zb HB hb; clear HO496; clear HO501; clear HO505; clear HB; have HO496 := n0_; have HO501 := n1_; have HO505 := n2_; have HO509 := n3_; have HB := n4_; clear n0_ n1_ n2_ n3_ n4_; (try clear hb); (try clear ho0)) | ((with_reducible refine gate_callee (f := 48) rfl ?_); refine goesL_ (some 77) rfl rfl Try.func48 (by kernel_rfl) rfl #[.slice A0 l0.length c0, .int .i64 a3, .int .i64 a1] rfl (by (try simp only [qj, qk, ql]); first | done | rfl | (simp only [qm, qn]; rfl)) ?_; (with_reducible refine (image_Read.calls kj5 _ _ l0 a3 a1 t510 t511 _ ?side1 ?side2 A16.out).mono ?_); (case side1 => exact zc (Kd.C_below HR0.out HB.out)); (case side2 => exact HC0.out); rintro e w45 ⟨v512, rfl, ho0, hb⟩; refine ⟨_, rfl, ?_⟩; have n0_ := za HO496 hb; have n1_ := za HO501 hb; have n2_ := za HO505 hb; have n3_ := za HO509 hb; have n4_ := Aside0.mk (Kd.R_lower ho0 (below_size (zB HB))); have n5_ := zb HB hb; clear HO496; clear HO501; clear HO505; clear HO509; clear HB; have HO496 := n0_; have HO501 := n1_; have HO505 := n2_; have HO509 := n3_; have HO513 := n4_; have HB := n5_; clear n0_ n1_ n2_ n3_ n4_ n5_; (try clear hb); (try clear ho0)) | ((with_reducible refine gate_callee (f := 49) rfl ?_); refine goesL_ (some 84) rfl rfl Try.func49 (by kernel_rfl) rfl #[.slice A0 l0.length c0, .int .i64 a3, .int .i64 a1] rfl (by (try simp only [qj, qk, ql]); first | done | rfl | (simp only [qm, qn]; rfl)) ?_; (with_reducible refine (darningref4_ImageRead.calls kj5 _ _ l0 a3 a1 t514 t515 _ ?side1 ?side2 A17.out).mono ?_); (case side1 => exact zc (Kd.C_below HR0.out HB.out)); (case side2 => exact HC0.out); rintro e w46 ⟨v516, rfl, ho0, hb⟩; refine ⟨_, rfl, ?_⟩; have n0_ := za HO496 hb; have n1_ := za HO501 hb; have n2_ := za HO505 hb; have n3_ := za HO509 hb; have n4_ := Aside0.mk (Kd.R_elder' (zr HO513) (Kd.R_base ho0) hb); have n5_ := Aside0.mk (Kd.R_lower (Kd.R_new' ho0 (Kd.R_lt (zr HO513))) (below_size (zB HB))); have n6_ := zb HB hb; clear HO496; clear HO501; clear HO505; clear HO509; clear HO513; clear HB; have HO496 := n0_; have HO501 := n1_; have HO505 := n2_; have HO509 := n3_; have HO513 := n4_; have HO517 := n5_; have HB := n6_; clear n0_ n1_ n2_ n3_ n4_ n5_ n6_; (try clear hb); (try clear ho0)) | ((with_reducible refine gate_callee (f := 50) rfl ?_); refine goesL_ (some 91) rfl rfl Try.func50 (by kernel_rfl) rfl #[.slice A0 l0.length c0, .int .i64 a3, .slice A4 l4.length c4] rfl (by (try simp only [qj, qk, ql]); first | done | rfl | (simp only [qm, qn]; rfl)) ?_; (with_reducible refine (image_Write.calls kj5 _ _ l0 a3 _ _ l4 t518 t519 _ ?side1 ?side2 ?side3 ?side4 A18.out).mono ?_); (case side1 => exact zc (Kd.C_below HR0.out HB.out)); (case side2 => exact HC0.out); (case side3 => exact zc (Kd.C_below HR4.out HB.out)); (case side4 => exact HC4.out); rintro e w47 ⟨v520, rfl, ho0, hb⟩; refine ⟨_, rfl, ?_⟩; have n0_ := Aside0.mk (Kd.R_elder' (zr HO496) (Kd.R_base ho0) hb); have n1_ := Aside0.mk (Kd.R_elder' (zr HO501) (Kd.R_base ho0) hb); have n2_ := Aside0.mk (Kd.R_elder' (zr HO505) (Kd.R_base ho0) hb); have n3_ := Aside0.mk (Kd.R_elder' (zr HO509) (Kd.R_base ho0) hb); have n4_ := za HO513 hb; have n5_ := za HO517 hb; have n6_ := Aside0.mk (Kd.R_lower (Kd.R_new' (Kd.R_new' (Kd.R_new' (Kd.R_new' ho0 (Kd.R_lt (zr HO496))) (Kd.R_lt (zr HO501))) (Kd.R_lt (zr HO505))) (Kd.R_lt (zr HO509))) (below_size (zB HB))); have n7_ := zb HB hb; clear HO496; clear HO501; clear HO505; clear HO509; clear HO513; clear HO517; clear HB; have HO496 := n0_; have HO501 := n1_; have HO505 := n2_; have HO509 := n3_; have HO513 := n4_; have HO517 := n5_; have HO521 := n6_; have HB := n7_; clear n0_ n1_ n2_ n3_ n4_ n5_ n6_ n7_; (try clear hb); (try clear ho0)) | ((with_reducible refine gate_callee (f := 51) rfl ?_); refine goesL_ (some 98) rfl rfl Try.func51 (by kernel_rfl) rfl #[.slice A0 l0.length c0, .int .i64 a3, .slice A4 l4.length c4] rfl (by (try simp only [qj, qk, ql]); first | done | rfl | (simp only [qm, qn]; rfl)) ?_; (with_reducible refine (darningref4_ImageWrite.calls kj5 _ _ l0 a3 _ _ l4 t522 t523 _ ?side1 ?side2 ?side3 ?side4 A19.out).mono ?_); (case side1 => exact zc (Kd.C_below HR0.out HB.out)); (case side2 => exact HC0.out); (case side3 => exact zc (Kd.C_below HR4.out HB.out)); (case side4 => exact HC4.out); rintro e w48 ⟨v524, rfl, ho0, hb⟩; refine ⟨_, rfl, ?_⟩; have n0_ := Aside0.mk (Kd.R_elder' (zr HO496) (Kd.R_base ho0) hb); have n1_ := Aside0.mk (Kd.R_elder' (zr HO501) (Kd.R_base ho0) hb); have n2_ := Aside0.mk (Kd.R_elder' (zr HO505) (Kd.R_base ho0) hb); have n3_ := Aside0.mk (Kd.R_elder' (zr HO509) (Kd.R_base ho0) hb); have n4_ := za HO513 hb; have n5_ := za HO517 hb; have n6_ := Aside0.mk (Kd.R_elder' (zr HO521) (Kd.R_base ho0) hb); have n7_ := Aside0.mk (Kd.R_lower (Kd.R_new' (Kd.R_new' (Kd.R_new' (Kd.R_new' (Kd.R_new' ho0 (Kd.R_lt (zr HO496))) (Kd.R_lt (zr HO501))) (Kd.R_lt (zr HO505))) (Kd.R_lt (zr HO509))) (Kd.R_lt (zr HO521))) (below_size (zB HB))); have n8_ := zb HB hb; clear HO496; clear HO501; clear HO505; clear HO509; clear HO513; clear HO517; clear HO521; clear HB; have HO496 := n0_; have HO501 := n1_; have HO505 := n2_; have HO509 := n3_; have HO513 := n4_; have HO517 := n5_; have HO521 := n6_; have HO525 := n7_; have HB := n8_; clear n0_ n1_ n2_ n3_ n4_ n5_ n6_ n7_ n8_; (try clear hb); (try clear ho0)) | ((with_reducible refine gate_callee (f := 52) rfl ?_); refine goesL_ (some 103) rfl rfl Try.func52 (by kernel_rfl) rfl #[.slice A0 l0.length c0] rfl (by (try simp only [qj, qk, ql]); first | done | rfl | (simp only [qm, qn]; rfl)) ?_; (with_reducible refine (darningref4_Blocks.calls kj5 _ _ l0 t526 true _ ?side1 ?side2 A20.out).mono ?_); (case side1 => exact zc (Kd.C_below HR0.out HB.out)); (case side2 => exact HC0.out); rintro e w49 ⟨v528, rfl, ho0, hb⟩; refine ⟨_, rfl, ?_⟩; have n0_ := za HO496 hb; have n1_ := za HO501 hb; have n2_ := za HO505 hb; have n3_ := za HO509 hb; have n4_ := za HO513 hb; have n5_ := za HO517 hb; have n6_ := za HO521 hb; have n7_ := za HO525 hb; have n8_ := Aside0.mk (Kd.R_lower ho0 (below_size (zB HB))); have n9_ := zb HB hb; clear HO496; clear HO501; clear HO505; clear HO509; clear HO513; clear HO517; clear HO521; clear HO525; clear HB; have HO496 := n0_; have HO501 := n1_; have HO505 := n2_; have HO509 := n3_; have HO513 := n4_; have HO517 := n5_; have HO521 := n6_; have HO525 := n7_; have HO529 := n8_; have HB := n9_; clear n0_ n1_ n2_ n3_ n4_ n5_ n6_ n7_ n8_ n9_; (try clear hb); (try clear ho0); obtain ⟨Ao50, co50, eo50⟩ := Kd.R_slice HO496.out; subst eo50; obtain ⟨Ao51, co51, eo51⟩ := Kd.R_slice HO501.out; subst eo51) | (go_at_call 25; (with_reducible refine (darningref4_SameEdits.calls kj5 _ _ t492 _ _ t497 true _ ?side1 ?side2 ?side3 ?side4 A21.out).mono ?_); (case side1 => exact zc (Kd.R_reads' HO496.out).2.2); (case side2 => exact (Kd.R_reads' HO496.out).2.1); (case side3 => exact zc (Kd.R_reads' HO501.out).2.2); (case side4 => exact (Kd.R_reads' HO501.out).2.1); rintro e w' ⟨rfl, ⟨nd, rfl⟩⟩; obtain ⟨Ao52, co52, eo52⟩ := Kd.R_slice HO505.out; subst eo52; obtain ⟨Ao53, co53, eo53⟩ := Kd.R_slice HO509.out; subst eo53) | (go_at_call 25; (with_reducible refine (darningref4_SameEdits.calls kj5 _ _ t502 _ _ t506 true _ ?side1 ?side2 ?side3 ?side4 A25.out).mono ?_); (case side1 => exact zc (Kd.R_reads' HO505.out).2.2); (case side2 => exact (Kd.R_reads' HO505.out).2.1); (case side3 => exact zc (Kd.R_reads' HO509.out).2.2); (case side4 => exact (Kd.R_reads' HO509.out).2.1); rintro e w' ⟨rfl, ⟨nd, rfl⟩⟩; have hcv54 := fun nd_ : Nat => own_string (P := Try.prog) (w := w49.drewN nd_) Try.underlying63 Try.underlying5 Try.underlying9 (Kd.own_of_R (zr HO513)); have hcv55 := fun nd_ : Nat => own_string (P := Try.prog) (w := w49.drewN nd_) Try.underlying63 Try.underlying5 Try.underlying9 (Kd.own_of_R (zr HO517)); obtain ⟨Ao56, co56, eo56⟩ := Kd.R_slice HO521.out; subst eo56; obtain ⟨Ao57, co57, eo57⟩ := Kd.R_slice HO525.out; subst eo57) | (go_at_call 25; (with_reducible refine (darningref4_SameEdits.calls kj5 _ _ t518 _ _ t522 true _ ?side1 ?side2 ?side3 ?side4 A30.out).mono ?_); (case side1 => exact zc (Kd.R_reads' HO521.out).2.2); (case side2 => exact (Kd.R_reads' HO521.out).2.1); (case side3 => exact zc (Kd.R_reads' HO525.out).2.2); (case side4 => exact (Kd.R_reads' HO525.out).2.1); rintro e w' ⟨rfl, ⟨nd, rfl⟩⟩) | (go_at_call 43; (with_reducible refine (image_Is.calls kj5 _ _ l0 a3 t533 _ ?side1 ?side2 A33.out).mono ?_); (case side1 => exact zc (Kd.C_below HR0.out (zB HB))); (case side2 => exact HC0.out); rintro e w58 ⟨rfl, hb⟩; have n0_ := za HO496 hb; have n1_ := za HO501 hb; have n2_ := za HO505 hb; have n3_ := za HO509 hb; have n4_ := za HO513 hb; have n5_ := za HO517 hb; have n6_ := za HO521 hb; have n7_ := za HO525 hb; have n8_ := za HO529 hb; have n9_ := zb HB hb; replace HO496 := n0_; replace HO501 := n1_; replace HO505 := n2_; replace HO509 := n3_; replace HO513 := n4_; replace HO517 := n5_; replace HO521 := n6_; replace HO525 := n7_; replace HO529 := n8_; replace HB := n9_; clear n0_ n1_ n2_ n3_ n4_ n5_ n6_ n7_ n8_ n9_; (try clear hb); obtain ⟨Ao59, co59, eo59⟩ := Kd.R_slice HO529.out; subst eo59) | (go_at_call 53; (with_reducible refine (darningref4_Is.calls kj5 _ _ t526 a3 t534 _ ?side1 ?side2 A35.out).mono ?_); (case side1 => exact zc (Kd.R_reads' HO529.out).2.2); (case side2 => exact (Kd.R_reads' HO529.out).2.1); rintro e w60 ⟨rfl, hb⟩; have n0_ := za HO496 hb; have n1_ := za HO501 hb; have n2_ := za HO505 hb; have n3_ := za HO509 hb; have n4_ := za HO513 hb; have n5_ := za HO517 hb; have n6_ := za HO521 hb; have n7_ := za HO525 hb; have n8_ := za HO529 hb; have n9_ := zb HB hb; replace HO496 := n0_; replace HO501 := n1_; replace HO505 := n2_; replace HO509 := n3_; replace HO513 := n4_; replace HO517 := n5_; replace HO521 := n6_; replace HO525 := n7_; replace HO529 := n8_; replace HB := n9_; clear n0_ n1_ n2_ n3_ n4_ n5_ n6_ n7_ n8_ n9_; (try clear hb)) | (go_at_call 42; (with_reducible refine (image_Holds.calls kj5 _ _ l0 a3 a1 t535 _ ?side1 ?side2 A37.out).mono ?_); (case side1 => exact zc (Kd.C_below HR0.out HB.out)); (case side2 => exact HC0.out); rintro e w61 ⟨rfl, hb⟩; have n0_ := za HO496 hb; have n1_ := za HO501 hb; have n2_ := za HO505 hb; have n3_ := za HO509 hb; have n4_ := za HO513 hb; have n5_ := za HO517 hb; have n6_ := za HO521 hb; have n7_ := za HO525 hb; have n8_ := za HO529 hb; have n9_ := zb HB hb; replace HO496 := n0_; replace HO501 := n1_; replace HO505 := n2_; replace HO509 := n3_; replace HO513 := n4_; replace HO517 := n5_; replace HO521 := n6_; replace HO525 := n7_; replace HO529 := n8_; replace HB := n9_; clear n0_ n1_ n2_ n3_ n4_ n5_ n6_ n7_ n8_ n9_; (try clear hb)) | (go_at_call 54; (with_reducible refine (darningref4_Within.calls kj5 _ _ t526 a3 a1 t536 _ ?side1 ?side2 A38.out).mono ?_); (case side1 => exact zc (Kd.R_reads' HO529.out).2.2); (case side2 => exact (Kd.R_reads' HO529.out).2.1); rintro e w62 ⟨rfl, hb⟩; have n0_ := za HO496 hb; have n1_ := za HO501 hb; have n2_ := za HO505 hb; have n3_ := za HO509 hb; have n4_ := za HO513 hb; have n5_ := za HO517 hb; have n6_ := za HO521 hb; have n7_ := za HO525 hb; have n8_ := za HO529 hb; have n9_ := zb HB hb; replace HO496 := n0_; replace HO501 := n1_; replace HO505 := n2_; replace HO509 := n3_; replace HO513 := n4_; replace HO517 := n5_; replace HO521 := n6_; replace HO525 := n7_; replace HO529 := n8_; replace HB := n9_; clear n0_ n1_ n2_ n3_ n4_ n5_ n6_ n7_ n8_ n9_; (try clear hb)) | (go_at_call 40; (with_reducible refine (darninglaw19_awake.calls kj5   _ A40.out).mono ?_); rintro e w63 ⟨rfl, hb⟩; have n0_ := za HO496 hb; have n1_ := za HO501 hb; have n2_ := za HO505 hb; have n3_ := za HO509 hb; have n4_ := za HO513 hb; have n5_ := za HO517 hb; have n6_ := za HO521 hb; have n7_ := za HO525 hb; have n8_ := za HO529 hb; have n9_ := zb HB hb; replace HO496 := n0_; replace HO501 := n1_; replace HO505 := n2_; replace HO509 := n3_; replace HO513 := n4_; replace HO517 := n5_; replace HO521 := n6_; replace HO525 := n7_; replace HO529 := n8_; replace HB := n9_; clear n0_ n1_ n2_ n3_ n4_ n5_ n6_ n7_ n8_ n9_; (try clear hb)))
  go_ret
  exact ⟨by first | rfl | (rw [HRA_.out]) | (simp only [HRA_.out]; done) | (simp only [← HRA_.out]; done) | (have HR_ := HRA_.out; simp_all) | (simp [errW_none, errW_some] <;> rfl) | (simp [*, errW_none, errW_some] <;> rfl), zB HB⟩

/-- THE ONE PURE STATEMENT of darninglaw19_ImageForms: yours. -/
def darninglaw19_ImageForms.Pure : Prop := ∀ (l0 : List Int) (a1 : Int) (l2 : List Int) (a3 : Int) (l4 : List Int), l0.length ≤ maxLen → l0.length * 8 ≤ 140737488351232 → (∀ x ∈ l0, (Lit.int .u64 x).wf = true) → (Lit.int .i64 a1).wf = true → l2.length ≤ maxLen → l2.length * 8 ≤ 140737488351232 → (∀ x ∈ l2, (Lit.int .i64 x).wf = true) → (Lit.int .i64 a3).wf = true → l4.length ≤ maxLen → l4.length * 1 ≤ 140737488351232 → (∀ x ∈ l4, (Lit.int .u8 x).wf = true) → ∃ k, darninglaw19_ImageForms.f k l0 a1 l2 a3 l4 = some true
theorem darninglaw19_ImageForms.walk (P : darninglaw19_ImageForms.Pure) (a0 : Option Addr) (len0 cap0 : Nat) (z0 : List Int) (a1 : Int) (a2 : Option Addr) (len2 cap2 : Nat) (z2 : List Int) (a3 : Int) (a4 : Option Addr) (len4 cap4 : Nat) (z4 : List Int) (w : World) (w0 : (a0 = none ∧ len0 = 0 ∧ cap0 = 0 ∧ z0 = []) ∨ ∃ x, a0 = some x ∧ len0 ≤ cap0 ∧ cap0 ≤ maxLen ∧ z0.length = cap0 ∧ (∀ i, i < z0.length → w.cell? (x.add i) = some (.int .u64 (z0.getD i 0))) ∧ ∀ n ∈ z0, (Lit.int .u64 n).wf = true) (y0 : len0 * 8 ≤ 140737488351232) (w1 : (Lit.int .i64 a1).wf = true) (w2 : (a2 = none ∧ len2 = 0 ∧ cap2 = 0 ∧ z2 = []) ∨ ∃ x, a2 = some x ∧ len2 ≤ cap2 ∧ cap2 ≤ maxLen ∧ z2.length = cap2 ∧ (∀ i, i < z2.length → w.cell? (x.add i) = some (.int .i64 (z2.getD i 0))) ∧ ∀ n ∈ z2, (Lit.int .i64 n).wf = true) (y2 : len2 * 8 ≤ 140737488351232) (w3 : (Lit.int .i64 a3).wf = true) (w4 : (a4 = none ∧ len4 = 0 ∧ cap4 = 0 ∧ z4 = []) ∨ ∃ x, a4 = some x ∧ len4 ≤ cap4 ∧ cap4 ≤ maxLen ∧ z4.length = cap4 ∧ (∀ i, i < z4.length → w.cell? (x.add i) = some (.int .u8 (z4.getD i 0))) ∧ ∀ n ∈ z4, (Lit.int .u8 n).wf = true) (y4 : len4 * 1 ≤ 140737488351232) :
  Calls Try.prog 13 #[.slice a0 len0 cap0, .int .i64 a1, .slice a2 len2 cap2, .int .i64 a3, .slice a4 len4 cap4] w fun e w' => e = .returned (.bool true) ∧ Below w.heap.size w w' := by
 obtain ⟨l0, rfl, hr0, hm0, hw0, hc0⟩ := ReadsInt.ofRowC w0
 obtain ⟨l2, rfl, hr2, hm2, hw2, hc2⟩ := ReadsInt.ofRowC w2
 obtain ⟨l4, rfl, hr4, hm4, hw4, hc4⟩ := ReadsInt.ofRowC w4
 obtain ⟨k, h⟩ := P l0 a1 l2 a3 l4 hm0 y0 hw0 w1 hm2 y2 hw2 w3 hm4 y4 hw4
 refine (darninglaw19_ImageForms.calls k _ _ l0 a1 _ _ l2 a3 _ _ l4 w (Kd.C_of_reads (d := (0 : Int)) (h1 := fun _ => rfl) hr0) hc0 (Kd.C_of_reads (d := (0 : Int)) (h1 := fun _ => rfl) hr2) hc2 (Kd.C_of_reads (d := (0 : Int)) (h1 := fun _ => rfl) hr4) hc4 h).mono ?_
 rintro e w' ⟨rfl, hd⟩
 exact ⟨rfl, hd⟩

end Go.Proofs.Ytglekonhdjploaa.XImageForms
