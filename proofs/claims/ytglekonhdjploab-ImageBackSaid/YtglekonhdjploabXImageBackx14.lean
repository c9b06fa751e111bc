-- Laid by this session's own printer (wip/xprint.py): each Go function that the law reaches as a plain Lean function, and that the call comes to it.
import Derived.Test.YtglekonhdjploabXImageBackx0
import Derived.Test.YtglekonhdjploabXImageBackx1
import Derived.Test.YtglekonhdjploabXImageBackx2
import Derived.Test.YtglekonhdjploabXImageBackx3
import Derived.Test.YtglekonhdjploabXImageBackx7
import Derived.Test.YtglekonhdjploabXImageBackx8
import Derived.Test.YtglekonhdjploabXImageBackx11
import Derived.Test.YtglekonhdjploabXImageBackx12
import Derived.Test.YtglekonhdjploabXImageBackx13
namespace Go.Proofs.Ytglekonhdjploab.XImageBack
open Go.RowKit Go.Proofs.YtglekonhdjploabW.PrintWords Go.Proofs.YtglekonhdjploabW.PrintLast Go.Proofs.YtglekonhdjploabW.PrintMore
attribute [local go_sem] max2_int min2_int max_two min_two max_three min_three max_four min_four   -- for this text's walks alone
set_option linter.unusedVariables false
set_option linter.unusedSimpArgs false

attribute [local go_sem high] eqA45
/-! ### darningref4_SameBlocks: function 12 -/
def darningref4_SameBlocks.l0 : Nat → List (S45) → List (S45) → Int → Int → Option (Bool)
 | 0, _, _, _, _ => none
 | k + 1, x0, x1, x12, x13 => if x13 < x12 then (if 0 ≤ x13 then (if x13 < (x0.length : Int) then (if x13 < (x1.length : Int) then (if (!(((rd_T45 x0 x13).f0) == ((rd_T45 x1 x13).f0)) || (!(((rd_T45 x0 x13).f1) == ((rd_T45 x1 x13).f1)) || (!(((rd_T45 x0 x13).f2) == ((rd_T45 x1 x13).f2))))) = true then (some false) else (darningref4_SameBlocks.l0 k x0 x1 x12 (wrap64 (x13 + 1)))) else (none)) else (none)) else (none)) else (some true)
def darningref4_SameBlocks.f (k : Nat) (l0 : List (S45)) (l1 : List (S45)) : Option (Bool) := if (l0.length : Int) = (l1.length : Int) then (darningref4_SameBlocks.l0 k l0 l1 (l0.length : Int) 0) else (some false)
theorem darningref4_SameBlocks.mono_l : ∀ k, (∀ y0 y1 y2 y3, LeO (darningref4_SameBlocks.l0 k y0 y1 y2 y3) (darningref4_SameBlocks.l0 (k + 1) y0 y1 y2 y3))
 | 0 => fun _ _ _ _ r h => by simp [darningref4_SameBlocks.l0] at h
 | k + 1 => by
  have ih0 := darningref4_SameBlocks.mono_l k
  ·
   intro y0 y1 y2 y3
   unfold darningref4_SameBlocks.l0
   repeat' first
   | (with_reducible exact ih0 _ _ _ _)
   | (with_reducible exact LeO.refl _)
   | (with_reducible exact LeO.none _)
   | (with_reducible refine LeO.ite ?_ ?_)
   | (with_reducible refine LeO.bind ?_ (fun _ => ?_))
   | exact ih0 _ _ _ _
   | exact LeO.none _
   | refine LeO.ite ?_ ?_
   | refine LeO.bind ?_ (fun _ => ?_)
theorem darningref4_SameBlocks.mono : ∀ a0 a1 k, LeO (darningref4_SameBlocks.f k a0 a1) (darningref4_SameBlocks.f (k + 1) a0 a1) := by
 intro a0 a1 k
 have ih0 := darningref4_SameBlocks.mono_l k
 unfold darningref4_SameBlocks.f
 repeat' first
   | (with_reducible exact ih0 _ _ _ _)
   | (with_reducible exact LeO.refl _)
   | (with_reducible exact LeO.none _)
   | (with_reducible refine LeO.ite ?_ ?_)
   | (with_reducible refine LeO.bind ?_ (fun _ => ?_))
   | exact ih0 _ _ _ _
   | exact LeO.none _
   | refine LeO.ite ?_ ?_
   | refine LeO.bind ?_ (fun _ => ?_)
set_option maxHeartbeats 8000000 in
set_option maxRecDepth 100000 in
theorem darningref4_SameBlocks.calls (k : Nat) (A0 : Option Addr) (c0 : Nat) (l0 : List (S45)) (A1 : Option Addr) (c1 : Nat) (l1 : List (S45)) (r : Bool) (w : World) (hr0 : Kd.C k45 w A0 l0.length l0) (hc0 : l0.length ≤ c0) (hr1 : Kd.C k45 w A1 l1.length l1) (hc1 : l1.length ≤ c1) (h : darningref4_SameBlocks.f k l0 l1 = some r) :
  Calls Try.prog 12 #[.slice A0 l0.length c0, .slice A1 l1.length c1] w fun e w' => e = .returned (.bool r) ∧ Drawn0 w w' := by
 have hu45 := Try.underlying45
 have HR0 := Aside0.mk hr0
 have HC0 := Aside0.mk hc0
 clear hr0 hc0
 have HR1 := Aside0.mk hr1
 have HC1 := Aside0.mk hc1
 clear hr1 hc1
 have H : (if (l0.length : Int) = (l1.length : Int) then (darningref4_SameBlocks.l0 k l0 l1 (l0.length : Int) 0) else (some false)) = some r := h
 clear h
 by_cases c3 : (l0.length : Int) = (l1.length : Int)
 ·
  rw [if_pos c3] at H
  have c3b0 : ((l0.length : Int) == (l1.length : Int)) = true := beq_iff_eq.mpr c3
  have c3b1 : ((l0.length : Int) != (l1.length : Int)) = false := bne_eq_false_iff_eq.mpr c3
  have c3b2 : (l0.length == l1.length) = true := by first | simpa using c3 | (simp at c3 ⊢; omega)
  clear c3
  have H' := Aside0.mk H
  clear H
  go_enter Try.func12, Try.ntmps12
  go_wp2
  repeat (go_quiet (fail); try go_wp2)
  go_loopg [13] k (fun kq v13 w' => ∃ (x13_1 : Int), v13 = .int .i64 x13_1 ∧ Aside0 (darningref4_SameBlocks.l0 kq l0 l1 (l0.length : Int) x13_1 = some r) ∧ Aside0 (kq ≤ k) ∧ Drawn0 w w')
  case atStart => exact ⟨(0), (by first | rfl | (simp; done) | (simp [*]; done)), H', ⟨Nat.le_refl _⟩, by repeat (first | exact Drawn0.refl _ | apply Drawn0.step)⟩
  case round =>
   clear H'
   try clear c1
   try clear p2
   try clear c3
   try clear c3b0
   try clear c3b1
   try clear c3b2
   obtain ⟨x13_1, rfl, HA, HK1, ⟨m1, rfl⟩⟩ := hrel
   cases gk with
   | zero => exact absurd HA.out (by simp [darningref4_SameBlocks.l0])
   | succ k1 =>
    have H := HA.out
    clear HA
    simp only [darningref4_SameBlocks.l0] at H
    by_cases c4 : x13_1 < (l0.length : Int)
    ·
     rw [if_pos c4] at H
     have c4b0 : decide (x13_1 < (l0.length : Int)) = true := decide_eq_true c4
     clear c4
     by_cases c5 : 0 ≤ x13_1
     ·
      rw [if_pos c5] at H
      have c5b0 : decide (0 ≤ x13_1) = true := decide_eq_true c5
      clear c5
      by_cases c6 : x13_1 < (l0.length : Int)
      ·
       rw [if_pos c6] at H
       have c6b0 : decide (x13_1 < (l0.length : Int)) = true := decide_eq_true c6
       clear c6
       by_cases c7 : x13_1 < (l1.length : Int)
       ·
        rw [if_pos c7] at H
        have c7b0 : decide (x13_1 < (l1.length : Int)) = true := decide_eq_true c7
        clear c7
        by_cases c8 : (!(((rd_T45 l0 x13_1).f0) == ((rd_T45 l1 x13_1).f0)) || (!(((rd_T45 l0 x13_1).f1) == ((rd_T45 l1 x13_1).f1)) || (!(((rd_T45 l0 x13_1).f2) == ((rd_T45 l1 x13_1).f2))))) = true
        ·
         rw [if_pos c8] at H
         have c8b0 : (!(((rd_T45 l0 x13_1).f0) == ((rd_T45 l1 x13_1).f0)) || (!(((rd_T45 l0 x13_1).f1) == ((rd_T45 l1 x13_1).f1)) || (!(((rd_T45 l0 x13_1).f2) == ((rd_T45 l1 x13_1).f2))))) = true := c8
         clear c8
         obtain rfl := Option.some.inj H
         have p306 : 0 ≤ (x13_1 : Int) := of_decide_eq_true (by first | (with_reducible assumption) | assumption)
         have q306 : x13_1 < (l0.length : Int) := of_decide_eq_true (by first | (with_reducible assumption) | assumption)
         obtain ⟨ad306, e306, hx306_0, hx306_1, hx306_2⟩ := at_T45 HR0.out x13_1 p306 q306
         cases e306
         replace p306 := eq_true p306
         replace q306 := eq_true q306
         have p307 : 0 ≤ (x13_1 : Int) := of_decide_eq_true (by first | (with_reducible assumption) | assumption)
         have q307 : x13_1 < (l1.length : Int) := of_decide_eq_true (by first | (with_reducible assumption) | assumption)
         obtain ⟨ad307, e307, hx307_0, hx307_1, hx307_2⟩ := at_T45 HR1.out x13_1 p307 q307
         cases e307
         replace p307 := eq_true p307
         replace q307 := eq_true q307
         go_wp2
         repeat (go_quiet (fail); try go_wp2)
         go_ret
         exact ⟨by first | rfl | (simp; done) | (simp [*]; done), by repeat (first | exact Drawn0.refl _ | apply Drawn0.step)⟩
        ·
         rw [if_neg c8] at H
         have c8b0 : (!(((rd_T45 l0 x13_1).f0) == ((rd_T45 l1 x13_1).f0)) || (!(((rd_T45 l0 x13_1).f1) == ((rd_T45 l1 x13_1).f1)) || (!(((rd_T45 l0 x13_1).f2) == ((rd_T45 l1 x13_1).f2))))) = false := by simpa using c8
         clear c8
         have H' := Aside0.mk H
         clear H
         have p306 : 0 ≤ (x13_1 : Int) := of_decide_eq_true (by first | (with_reducible assumption) | assumption)
         have q306 : x13_1 < (l0.length : Int) := of_decide_eq_true (by first | (with_reducible assumption) | assumption)
         obtain ⟨ad306, e306, hx306_0, hx306_1, hx306_2⟩ := at_T45 HR0.out x13_1 p306 q306
         cases e306
         replace p306 := eq_true p306
         replace q306 := eq_true q306
         have p307 : 0 ≤ (x13_1 : Int) := of_decide_eq_true (by first | (with_reducible assumption) | assumption)
         have q307 : x13_1 < (l1.length : Int) := of_decide_eq_true (by first | (with_reducible assumption) | assumption)
         obtain ⟨ad307, e307, hx307_0, hx307_1, hx307_2⟩ := at_T45 HR1.out x13_1 p307 q307
         cases e307
         replace p307 := eq_true p307
         replace q307 := eq_true q307
         go_wp2
         repeat (go_quiet (fail); try go_wp2)
         go_roundg k1
         case measure => have := HK1.out; omega
         case rel => exact ⟨(wrap64 (x13_1 + 1)), (by first | rfl | (simp; done) | (simp [*]; done)), H', ⟨by have := HK1.out; omega⟩, by repeat (first | exact Drawn0.refl _ | apply Drawn0.step)⟩
       ·
        rw [if_neg c7] at H
        exact absurd H (by simp)
      ·
       rw [if_neg c6] at H
       exact absurd H (by simp)
     ·
      rw [if_neg c5] at H
      exact absurd H (by simp)
    ·
     rw [if_neg c4] at H
     have c4b0 : decide (x13_1 < (l0.length : Int)) = false := decide_eq_false c4
     clear c4
     obtain rfl := Option.some.inj H
     go_wp2
     repeat (go_quiet (fail); try go_wp2)
     go_ret
     exact ⟨by first | rfl | (simp; done) | (simp [*]; done), by repeat (first | exact Drawn0.refl _ | apply Drawn0.step)⟩
 ·
  rw [if_neg c3] at H
  have c3b0 : ((l0.length : Int) == (l1.length : Int)) = false := beq_eq_false_iff_ne.mpr c3
  have c3b1 : ((l0.length : Int) != (l1.length : Int)) = true := bne_iff_ne.mpr c3
  have c3b2 : (l0.length == l1.length) = false := by first | simpa using c3 | (simp at c3 ⊢; omega)
  obtain rfl := Option.some.inj H
  go_enter Try.func12, Try.ntmps12
  go_wp2
  repeat (go_quiet (fail); try go_wp2)
  go_ret
  exact ⟨by first | rfl | (simp; done) | (simp [*]; done), by repeat (first | exact Drawn0.refl _ | apply Drawn0.step)⟩

/-! ### darninglaw19_ImageBack: function 3 -/
def darninglaw19_ImageBack.j0 : Nat → List (S45) → Int → Int → List Int → Bool → Option (Bool)
 | 0, _, _, _, _, _ => none
 | k + 1, x0, x1, x2, x3, x33 => if x33 = true then ((darninglaw19_awake.f k).bind fun t309 => (some t309)) else ((darninglaw14_Words.f k x0 x1).bind fun t310 => ((image_Alloc.f k t310 x2 x3).bind fun bt313 => (if bt313.2.2 = 0 then ((darningref4_Apply.f k t310 bt313.1).bind fun t320 => ((image_Free.f k t320 bt313.2.1).bind fun bt323 => ((darningref4_Apply.f k t320 bt323.1).bind fun t327 => ((chain_Blocks.f k t327).bind fun bt330 => ((darningref4_Apply.f k t320 bt323.1).bind fun t334 => ((image_Free.f k t334 bt313.2.1).bind fun bt337 => (if bt323.2 = 0 then (if (bt323.1.length : Int) = 1 then (if bt330.2 = true then ((darningref4_SameBlocks.f k bt330.1 x0).bind fun t341 => (if t341 = true then (if bt337.2 = 1 then ((darninglaw19_awake.f k).bind fun t342 => (some t342)) else (some false)) else (some false))) else (some false)) else (some false)) else (some false)))))))) else (if (bt313.1.length : Int) = 0 then (if bt313.2.1 = 0 then (if bt313.2.2 = 1 then ((darninglaw19_awake.f k).bind fun t318 => (some t318)) else (if bt313.2.2 = 4 then ((darninglaw19_awake.f k).bind fun t319 => (some t319)) else (some false))) else (some false)) else (some false)))))
def darninglaw19_ImageBack.f (k : Nat) (l0 : List (S45)) (a1 : Int) (a2 : Int) (l3 : List Int) : Option (Bool) := if (l0.length : Int) > 300 then (darninglaw19_ImageBack.j0 k l0 a1 a2 l3 true) else (if (l3.length : Int) > 60 then (darninglaw19_ImageBack.j0 k l0 a1 a2 l3 true) else ((darningref4_MayBlocks.f k l0 a1).bind fun t308 => (darninglaw19_ImageBack.j0 k l0 a1 a2 l3 (!t308))))
theorem darninglaw19_ImageBack.mono_l : ∀ k, (∀ y0 y1 y2 y3 y4, LeO (darninglaw19_ImageBack.j0 k y0 y1 y2 y3 y4) (darninglaw19_ImageBack.j0 (k + 1) y0 y1 y2 y3 y4))
 | 0 => fun _ _ _ _ _ r h => by simp [darninglaw19_ImageBack.j0] at h
 | k + 1 => by
  have ih0 := darninglaw19_ImageBack.mono_l k
  ·
   intro y0 y1 y2 y3 y4
   unfold darninglaw19_ImageBack.j0
   repeat' first
   | (with_reducible exact ih0 _ _ _ _ _)
   | (with_reducible exact chain_Blocks.mono _ _)
   | (with_reducible exact darninglaw14_Words.mono _ _ _)
   | (with_reducible exact darninglaw19_awake.mono _)
   | (with_reducible exact darningref4_Apply.mono _ _ _)
   | (with_reducible exact darningref4_MayBlocks.mono _ _ _)
   | (with_reducible exact darningref4_SameBlocks.mono _ _ _)
   | (with_reducible exact image_Alloc.mono _ _ _ _)
   | (with_reducible exact image_Free.mono _ _ _)
   | (with_reducible exact LeO.refl _)
   | (with_reducible exact LeO.none _)
   | (with_reducible refine LeO.ite ?_ ?_)
   | (with_reducible refine LeO.bind ?_ (fun _ => ?_))
   | exact ih0 _ _ _ _ _
   | exact chain_Blocks.mono _ _
   | exact darninglaw14_Words.mono _ _ _
   | exact darninglaw19_awake.mono _
   | exact darningref4_Apply.mono _ _ _
   | exact darningref4_MayBlocks.mono _ _ _
   | exact darningref4_SameBlocks.mono _ _ _
   | exact image_Alloc.mono _ _ _ _
   | exact image_Free.mono _ _ _
   | exact LeO.none _
   | refine LeO.ite ?_ ?_
   | refine LeO.bind ?_ (fun _ => ?_)
theorem darninglaw19_ImageBack.mono : ∀ a0 a1 a2 a3 k, LeO (darninglaw19_ImageBack.f k a0 a1 a2 a3) (darninglaw19_ImageBack.f (k + 1) a0 a1 a2 a3) := by
 intro a0 a1 a2 a3 k
 have ih0 := darninglaw19_ImageBack.mono_l k
 unfold darninglaw19_ImageBack.f
 repeat' first
   | (with_reducible exact ih0 _ _ _ _ _)
   | (with_reducible exact chain_Blocks.mono _ _)
   | (with_reducible exact darninglaw14_Words.mono _ _ _)
   | (with_reducible exact darninglaw19_awake.mono _)
   | (with_reducible exact darningref4_Apply.mono _ _ _)
   | (with_reducible exact darningref4_MayBlocks.mono _ _ _)
   | (with_reducible exact darningref4_SameBlocks.mono _ _ _)
   | (with_reducible exact image_Alloc.mono _ _ _ _)
   | (with_reducible exact image_Free.mono _ _ _)
   | (with_reducible exact LeO.refl _)
   | (with_reducible exact LeO.none _)
   | (with_reducible refine LeO.ite ?_ ?_)
   | (with_reducible refine LeO.bind ?_ (fun _ => ?_))
   | exact ih0 _ _ _ _ _
   | exact chain_Blocks.mono _ _
   | exact darninglaw14_Words.mono _ _ _
   | exact darninglaw19_awake.mono _
   | exact darningref4_Apply.mono _ _ _
   | exact darningref4_MayBlocks.mono _ _ _
   | exact darningref4_SameBlocks.mono _ _ _
   | exact image_Alloc.mono _ _ _ _
   | exact image_Free.mono _ _ _
   | exact LeO.none _
   | refine LeO.ite ?_ ?_
   | refine LeO.bind ?_ (fun _ => ?_)
set_option maxHeartbeats 8000000 in
set_option maxRecDepth 100000 in
theorem darninglaw19_ImageBack.calls (k : Nat) (A0 : Option Addr) (c0 : Nat) (l0 : List (S45)) (a1 : Int) (a2 : Int) (A3 : Option Addr) (c3 : Nat) (l3 : List Int) (w : World) (hr0 : Kd.C k45 w A0 l0.length l0) (hc0 : l0.length ≤ c0) (hr3 : Kd.C (Kd.int .i64) w A3 l3.length l3) (hc3 : l3.length ≤ c3) (h : darninglaw19_ImageBack.f k l0 a1 a2 l3 = some true) :
  Calls Try.prog 3 #[.slice A0 l0.length c0, .int .i64 a1, .int .i64 a2, .slice A3 l3.length c3] w fun e w' => e = .returned (.bool true) ∧ Below w.heap.size w w' := by
 have HR0 := Aside0.mk hr0
 have HC0 := Aside0.mk hc0
 clear hr0 hc0
 have HR3 := Aside0.mk hr3
 have HC3 := Aside0.mk hc3
 clear hr3 hc3
 have HB := Aside0.mk (Below.refl w.heap.size w)
 have H : (if (l0.length : Int) > 300 then (darninglaw19_ImageBack.j0 k l0 a1 a2 l3 true) else (if (l3.length : Int) > 60 then (darninglaw19_ImageBack.j0 k l0 a1 a2 l3 true) else ((darningref4_MayBlocks.f k l0 a1).bind fun t308 => (darninglaw19_ImageBack.j0 k l0 a1 a2 l3 (!t308))))) = some true := h
 clear h
 have HC5 := Aside0.mk H
 clear H
 go_enter Try.func3, Try.ntmps3
 go_upto_region 1 with (fail)
 go_cut [33] (fun v33 wc => ∃ (kq : Nat) (x33_4 : Bool), v33 = .bool x33_4 ∧ Aside0 (darninglaw19_ImageBack.j0 kq l0 a1 a2 l3 x33_4 = some true) ∧ Aside0 (kq ≤ k) ∧ Aside0 (Below w.heap.size w wc))
 case first =>
  have H := HC5.out
  clear HC5
  by_cases c6 : (l0.length : Int) > 300
  ·
   rw [if_pos c6] at H
   have c6b0 : decide (300 < (l0.length : Int)) = true := decide_eq_true c6
   have c6b1 : decide (300 < l0.length) = true := decide_eq_true (by omega)
   clear c6
   (first | rw [c6b0] | (simp only [i64_w, i32_w]; rw [c6b0]) | skip)
   have H' := Aside0.mk H
   clear H
   go_wp2
   go_meet
   case rel => exact ⟨_, (true), (by first | rfl | (simp; done) | (simp [*]; done)), H', ⟨by first | omega | exact Nat.le_refl _⟩, ⟨by repeat (first | (with_reducible first | exact HB.out | apply below_alloc | apply pw_below_drewN | apply below_drew1) | exact HB.out)⟩⟩
  ·
   rw [if_neg c6] at H
   have c6b0 : decide (300 < (l0.length : Int)) = false := decide_eq_false c6
   have c6b1 : decide (300 < l0.length) = false := decide_eq_false (by omega)
   clear c6
   (first | rw [c6b0] | (simp only [i64_w, i32_w]; rw [c6b0]) | skip)
   by_cases c7 : (l3.length : Int) > 60
   ·
    rw [if_pos c7] at H
    have c7b0 : decide (60 < (l3.length : Int)) = true := decide_eq_true c7
    have c7b1 : decide (60 < l3.length) = true := decide_eq_true (by omega)
    clear c7
    have H' := Aside0.mk H
    clear H
    go_wp2
    go_meet
    case rel => exact ⟨_, (true), (by first | rfl | (simp; done) | (simp [*]; done)), H', ⟨by first | omega | exact Nat.le_refl _⟩, ⟨by repeat (first | (with_reducible first | exact HB.out | apply below_alloc | apply pw_below_drewN | apply below_drew1) | exact HB.out)⟩⟩
   ·
    rw [if_neg c7] at H
    have c7b0 : decide (60 < (l3.length : Int)) = false := decide_eq_false c7
    have c7b1 : decide (60 < l3.length) = false := decide_eq_false (by omega)
    clear c7
    replace H := Option.bind_eq_some_iff.mp H
    obtain ⟨t308, A80, H⟩ := H
    replace H : (darninglaw19_ImageBack.j0 k l0 a1 a2 l3 (!t308)) = some true := H
    have A8 := Aside0.mk A80
    clear A80
    have H' := Aside0.mk H
    clear H
    go_wp2_with (first | (go_at_call 5; (with_reducible refine (darningref4_MayBlocks.calls k _ _ l0 a1 t308 _ ?side1 ?side2 A8.out).mono ?_); (case side1 => repeat (first | exact (Kd.C_below HR0.out HB.out) | (with_reducible refine Kd.C_alloc ?_ _) | (with_reducible refine Kd.C_drewN ?_ _) | (with_reducible refine Kd.C_drew ?_))); (case side2 => exact HC0.out); rintro e w9 ⟨rfl, hb⟩; have n0_ := Aside0.mk (below_step (by repeat (first | (with_reducible first | exact HB.out | apply below_alloc | apply pw_below_drewN | apply below_drew1) | exact HB.out)) hb); clear HB; have HB := n0_; clear n0_; (try clear hb); (try clear hb2); (try clear hk); (try clear hi)))
    go_meet
    case rel => exact ⟨_, (!t308), (by first | rfl | (simp; done) | (simp [*]; done)), H', ⟨by first | omega | exact Nat.le_refl _⟩, ⟨by repeat (first | (with_reducible first | exact HB.out | apply below_alloc | apply pw_below_drewN | apply below_drew1) | exact HB.out)⟩⟩
 case rest =>
  clear HC5
  try clear p2
  try clear c3
  try clear c6
  try clear c6b0
  try clear c6b1
  try clear c7
  try clear c7b0
  try clear c7b1
  obtain ⟨kq, x33_4, rfl, HA, HJ4, HB⟩ := hcut
  cases kq with
  | zero => exact absurd HA.out (by simp [darninglaw19_ImageBack.j0])
  | succ kj4 =>
   have H := HA.out
   clear HA
   simp only [darninglaw19_ImageBack.j0] at H
   by_cases c10 : x33_4 = true
   ·
    subst c10
    have H1 : ((darninglaw19_awake.f kj4).bind fun t309 => (some t309)) = some true := by rw [if_pos rfl] at H; exact H
    clear H
    have H := H1
    clear H1
    replace H := Option.bind_eq_some_iff.mp H
    obtain ⟨t309, A110, H⟩ := H
    replace H : (some t309) = some true := H
    have A11 := Aside0.mk A110
    clear A110
    obtain rfl : t309 = true := Option.some.inj H
    go_wp2_with (first | ((with_reducible refine gate_callee (f := 6) rfl ?_); refine goesL_ (some 34) rfl rfl Try.func6 (by kernel_rfl) rfl #[] rfl (by (try simp only [List.map_toArray, List.map_cons, List.map_nil]); first | done | rfl | (simp only [List.length_drop, List.length_take]; rfl)) ?_; (with_reducible refine (darninglaw19_awake.calls kj4   _ A11.out).mono ?_); rintro e w12 ⟨rfl, hb⟩; refine ⟨_, rfl, ?_⟩; have n0_ := Aside0.mk (below_step (by repeat (first | (with_reducible first | exact HB.out | apply below_alloc | apply pw_below_drewN | apply below_drew1) | exact HB.out)) hb); clear HB; have HB := n0_; clear n0_; (try clear hb); (try clear hb2); (try clear hk); (try clear hi)))
    go_ret
    exact ⟨by first | rfl | (rw [HRA_.out]) | (simp only [HRA_.out]; done) | (simp only [← HRA_.out]; done) | (have HR_ := HRA_.out; simp_all) | (simp [errW_none, errW_some] <;> rfl) | (simp [*, errW_none, errW_some] <;> rfl), by repeat (first | (with_reducible first | exact HB.out | apply below_alloc | apply pw_below_drewN | apply below_drew1) | exact HB.out)⟩
   ·
    replace c10 := Bool.eq_false_iff.mpr c10
    subst c10
    have H1 : ((darninglaw14_Words.f kj4 l0 a1).bind fun t310 => ((image_Alloc.f kj4 t310 a2 l3).bind fun bt313 => (if bt313.2.2 = 0 then ((darningref4_Apply.f kj4 t310 bt313.1).bind fun t320 => ((image_Free.f kj4 t320 bt313.2.1).bind fun bt323 => ((darningref4_Apply.f kj4 t320 bt323.1).bind fun t327 => ((chain_Blocks.f kj4 t327).bind fun bt330 => ((darningref4_Apply.f kj4 t320 bt323.1).bind fun t334 => ((image_Free.f kj4 t334 bt313.2.1).bind fun bt337 => (if bt323.2 = 0 then (if (bt323.1.length : Int) = 1 then (if bt330.2 = true then ((darningref4_SameBlocks.f kj4 bt330.1 l0).bind fun t341 => (if t341 = true then (if bt337.2 = 1 then ((darninglaw19_awake.f kj4).bind fun t342 => (some t342)) else (some false)) else (some false))) else (some false)) else (some false)) else (some false)))))))) else (if (bt313.1.length : Int) = 0 then (if bt313.2.1 = 0 then (if bt313.2.2 = 1 then ((darninglaw19_awake.f kj4).bind fun t318 => (some t318)) else (if bt313.2.2 = 4 then ((darninglaw19_awake.f kj4).bind fun t319 => (some t319)) else (some false))) else (some false)) else (some false))))) = some true := by rw [if_neg (show ¬ (false = true) by decide)] at H; exact H
    clear H
    have H := H1
    clear H1
    replace H := Option.bind_eq_some_iff.mp H
    obtain ⟨t310, A130, H⟩ := H
    replace H : ((image_Alloc.f kj4 t310 a2 l3).bind fun bt313 => (if bt313.2.2 = 0 then ((darningref4_Apply.f kj4 t310 bt313.1).bind fun t320 => ((image_Free.f kj4 t320 bt313.2.1).bind fun bt323 => ((darningref4_Apply.f kj4 t320 bt323.1).bind fun t327 => ((chain_Blocks.f kj4 t327).bind fun bt330 => ((darningref4_Apply.f kj4 t320 bt323.1).bind fun t334 => ((image_Free.f kj4 t334 bt313.2.1).bind fun bt337 => (if bt323.2 = 0 then (if (bt323.1.length : Int) = 1 then (if bt330.2 = true then ((darningref4_SameBlocks.f kj4 bt330.1 l0).bind fun t341 => (if t341 = true then (if bt337.2 = 1 then ((darninglaw19_awake.f kj4).bind fun t342 => (some t342)) else (some false)) else (some false))) else (some false)) else (some false)) else (some false)))))))) else (if (bt313.1.length : Int) = 0 then (if bt313.2.1 = 0 then (if bt313.2.2 = 1 then ((darninglaw19_awake.f kj4).bind fun t318 => (some t318)) else (if bt313.2.2 = 4 then ((darninglaw19_awake.f kj4).bind fun t319 => (some t319)) else (some false))) else (some false)) else (some false)))) = some true := H
    have A13 := Aside0.mk A130
    clear A130
    replace H := Option.bind_eq_some_iff.mp H
    obtain ⟨⟨t313, t314, t315⟩, A140, H⟩ := H
    replace H : (if t315 = 0 then ((darningref4_Apply.f kj4 t310 t313).bind fun t320 => ((image_Free.f kj4 t320 t314).bind fun bt323 => ((darningref4_Apply.f kj4 t320 bt323.1).bind fun t327 => ((chain_Blocks.f kj4 t327).bind fun bt330 => ((darningref4_Apply.f kj4 t320 bt323.1).bind fun t334 => ((image_Free.f kj4 t334 t314).bind fun bt337 => (if bt323.2 = 0 then (if (bt323.1.length : Int) = 1 then (if bt330.2 = true then ((darningref4_SameBlocks.f kj4 bt330.1 l0).bind fun t341 => (if t341 = true then (if bt337.2 = 1 then ((darninglaw19_awake.f kj4).bind fun t342 => (some t342)) else (some false)) else (some false))) else (some false)) else (some false)) else (some false)))))))) else (if (t313.length : Int) = 0 then (if t314 = 0 then (if t315 = 1 then ((darninglaw19_awake.f kj4).bind fun t318 => (some t318)) else (if t315 = 4 then ((darninglaw19_awake.f kj4).bind fun t319 => (some t319)) else (some false))) else (some false)) else (some false))) = some true := H
    have A14 := Aside0.mk A140
    clear A140
    by_cases c15 : t315 = 0
    ·
     rw [if_pos c15] at H
     have c15b0 : (t315 == 0) = true := beq_iff_eq.mpr c15
     have c15b1 : (t315 != 0) = false := bne_eq_false_iff_eq.mpr c15
     clear c15
     replace H := Option.bind_eq_some_iff.mp H
     obtain ⟨t320, A160, H⟩ := H
     replace H : ((image_Free.f kj4 t320 t314).bind fun bt323 => ((darningref4_Apply.f kj4 t320 bt323.1).bind fun t327 => ((chain_Blocks.f kj4 t327).bind fun bt330 => ((darningref4_Apply.f kj4 t320 bt323.1).bind fun t334 => ((image_Free.f kj4 t334 t314).bind fun bt337 => (if bt323.2 = 0 then (if (bt323.1.length : Int) = 1 then (if bt330.2 = true then ((darningref4_SameBlocks.f kj4 bt330.1 l0).bind fun t341 => (if t341 = true then (if bt337.2 = 1 then ((darninglaw19_awake.f kj4).bind fun t342 => (some t342)) else (some false)) else (some false))) else (some false)) else (some false)) else (some false))))))) = some true := H
     have A16 := Aside0.mk A160
     clear A160
     replace H := Option.bind_eq_some_iff.mp H
     obtain ⟨⟨t323, t324⟩, A170, H⟩ := H
     replace H : ((darningref4_Apply.f kj4 t320 t323).bind fun t327 => ((chain_Blocks.f kj4 t327).bind fun bt330 => ((darningref4_Apply.f kj4 t320 t323).bind fun t334 => ((image_Free.f kj4 t334 t314).bind fun bt337 => (if t324 = 0 then (if (t323.length : Int) = 1 then (if bt330.2 = true then ((darningref4_SameBlocks.f kj4 bt330.1 l0).bind fun t341 => (if t341 = true then (if bt337.2 = 1 then ((darninglaw19_awake.f kj4).bind fun t342 => (some t342)) else (some false)) else (some false))) else (some false)) else (some false)) else (some false)))))) = some true := H
     have A17 := Aside0.mk A170
     clear A170
     replace H := Option.bind_eq_some_iff.mp H
     obtain ⟨t327, A180, H⟩ := H
     replace H : ((chain_Blocks.f kj4 t327).bind fun bt330 => ((darningref4_Apply.f kj4 t320 t323).bind fun t334 => ((image_Free.f kj4 t334 t314).bind fun bt337 => (if t324 = 0 then (if (t323.length : Int) = 1 then (if bt330.2 = true then ((darningref4_SameBlocks.f kj4 bt330.1 l0).bind fun t341 => (if t341 = true then (if bt337.2 = 1 then ((darninglaw19_awake.f kj4).bind fun t342 => (some t342)) else (some false)) else (some false))) else (some false)) else (some false)) else (some false))))) = some true := H
     have A18 := Aside0.mk A180
     clear A180
     replace H := Option.bind_eq_some_iff.mp H
     obtain ⟨⟨t330, t331⟩, A190, H⟩ := H
     replace H : ((darningref4_Apply.f kj4 t320 t323).bind fun t334 => ((image_Free.f kj4 t334 t314).bind fun bt337 => (if t324 = 0 then (if (t323.length : Int) = 1 then (if t331 = true then ((darningref4_SameBlocks.f kj4 t330 l0).bind fun t341 => (if t341 = true then (if bt337.2 = 1 then ((darninglaw19_awake.f kj4).bind fun t342 => (some t342)) else (some false)) else (some false))) else (some false)) else (some false)) else (some false)))) = some true := H
     have A19 := Aside0.mk A190
     clear A190
     replace H := Option.bind_eq_some_iff.mp H
     obtain ⟨t334, A200, H⟩ := H
     replace H : ((image_Free.f kj4 t334 t314).bind fun bt337 => (if t324 = 0 then (if (t323.length : Int) = 1 then (if t331 = true then ((darningref4_SameBlocks.f kj4 t330 l0).bind fun t341 => (if t341 = true then (if bt337.2 = 1 then ((darninglaw19_awake.f kj4).bind fun t342 => (some t342)) else (some false)) else (some false))) else (some false)) else (some false)) else (some false))) = some true := H
     have A20 := Aside0.mk A200
     clear A200
     replace H := Option.bind_eq_some_iff.mp H
     obtain ⟨⟨t337, t338⟩, A210, H⟩ := H
     replace H : (if t324 = 0 then (if (t323.length : Int) = 1 then (if t331 = true then ((darningref4_SameBlocks.f kj4 t330 l0).bind fun t341 => (if t341 = true then (if t338 = 1 then ((darninglaw19_awake.f kj4).bind fun t342 => (some t342)) else (some false)) else (some false))) else (some false)) else (some false)) else (some false)) = some true := H
     have A21 := Aside0.mk A210
     clear A210
     by_cases c22 : t324 = 0
     ·
      rw [if_pos c22] at H
      have c22b0 : (t324 == 0) = true := beq_iff_eq.mpr c22
      have c22b1 : (t324 != 0) = false := bne_eq_false_iff_eq.mpr c22
      clear c22
      by_cases c23 : (t323.length : Int) = 1
      ·
       rw [if_pos c23] at H
       have c23b0 : ((t323.length : Int) == 1) = true := beq_iff_eq.mpr c23
       have c23b1 : ((t323.length : Int) != 1) = false := bne_eq_false_iff_eq.mpr c23
       clear c23
       by_cases c24 : t331 = true
       ·
        subst c24
        have H1 : ((darningref4_SameBlocks.f kj4 t330 l0).bind fun t341 => (if t341 = true then (if t338 = 1 then ((darninglaw19_awake.f kj4).bind fun t342 => (some t342)) else (some false)) else (some false))) = some true := by rw [if_pos rfl] at H; exact H
        clear H
        have H := H1
        clear H1
        replace H := Option.bind_eq_some_iff.mp H
        obtain ⟨t341, A250, H⟩ := H
        replace H : (if t341 = true then (if t338 = 1 then ((darninglaw19_awake.f kj4).bind fun t342 => (some t342)) else (some false)) else (some false)) = some true := H
        have A25 := Aside0.mk A250
        clear A250
        by_cases c26 : t341 = true
        ·
         subst c26
         have H1 : (if t338 = 1 then ((darninglaw19_awake.f kj4).bind fun t342 => (some t342)) else (some false)) = some true := by rw [if_pos rfl] at H; exact H
         clear H
         have H := H1
         clear H1
         by_cases c27 : t338 = 1
         ·
          rw [if_pos c27] at H
          have c27b0 : (t338 == 1) = true := beq_iff_eq.mpr c27
          have c27b1 : (t338 != 1) = false := bne_eq_false_iff_eq.mpr c27
          clear c27
          replace H := Option.bind_eq_some_iff.mp H
          obtain ⟨t342, A280, H⟩ := H
          replace H : (some t342) = some true := H
          have A28 := Aside0.mk A280
          clear A280
          obtain rfl : t342 = true := Option.some.inj H
          go_wp2_with (first | ((with_reducible refine gate_callee (f := 7) rfl ?_); refine goesL_ (some 37) rfl rfl Try.func7 (by kernel_rfl) rfl #[.slice A0 l0.length c0, .int .i64 a1] rfl (by (try simp only [List.map_toArray, List.map_cons, List.map_nil]); first | done | rfl | (simp only [List.length_drop, List.length_take]; rfl)) ?_; (with_reducible refine (darninglaw14_Words.calls kj4 _ _ l0 a1 t310 _ ?side1 ?side2 A13.out).mono ?_); (case side1 => repeat (first | exact (Kd.C_below HR0.out HB.out) | (with_reducible refine Kd.C_alloc ?_ _) | (with_reducible refine Kd.C_drewN ?_ _) | (with_reducible refine Kd.C_drew ?_))); (case side2 => exact HC0.out); rintro e w29 ⟨v311, rfl, ho0, hb⟩; refine ⟨_, rfl, ?_⟩; have n0_ := Aside0.mk (Kd.R_lower ho0 (below_size (by repeat (first | (with_reducible first | exact HB.out | apply below_alloc | apply pw_below_drewN | apply below_drew1) | exact HB.out)))); have n1_ := Aside0.mk (below_step (by repeat (first | (with_reducible first | exact HB.out | apply below_alloc | apply pw_below_drewN | apply below_drew1) | exact HB.out)) hb); clear HB; have HO312 := n0_; have HB := n1_; clear n0_ n1_; (try clear hb); (try clear hb2); (try clear hk); (try clear hi); (try clear ho0); obtain ⟨Ao30, co30, eo30⟩ := Kd.R_slice HO312.out; subst eo30) | ((with_reducible refine gate_callee (f := 8) rfl ?_); refine goesL_ (some 42) rfl rfl Try.func8 (by kernel_rfl) rfl #[.slice Ao30 t310.length co30, .int .i64 a2, .slice A3 l3.length c3] rfl (by (try simp only [List.map_toArray, List.map_cons, List.map_nil]); first | done | rfl | (simp only [List.length_drop, List.length_take]; rfl)) ?_; (with_reducible refine (image_Alloc.calls kj4 _ _ t310 a2 _ _ l3 t313 t314 t315 _ ?side1 ?side2 ?side3 ?side4 A14.out).mono ?_); (case side1 => repeat (first | exact (Kd.R_reads' HO312.out).2.2 | (with_reducible refine Kd.C_alloc ?_ _) | (with_reducible refine Kd.C_drewN ?_ _) | (with_reducible refine Kd.C_drew ?_))); (case side2 => exact (Kd.R_reads' HO312.out).2.1); (case side3 => repeat (first | exact (Kd.C_below HR3.out HB.out) | (with_reducible refine Kd.C_alloc ?_ _) | (with_reducible refine Kd.C_drewN ?_ _) | (with_reducible refine Kd.C_drew ?_))); (case side4 => exact HC3.out); rintro e w31 ⟨v316, rfl, ho0, hb⟩; refine ⟨_, rfl, ?_⟩; have n0_ := Aside0.mk (Kd.R_below (by (with_reducible repeat (first | apply Kd.R_alloc | apply Kd.R_drewN | apply Kd.R_drew)); exact HO312.out) hb); have n1_ := Aside0.mk (Kd.R_lower ho0 (below_size (by repeat (first | (with_reducible first | exact HB.out | apply below_alloc | apply pw_below_drewN | apply below_drew1) | exact HB.out)))); have n2_ := Aside0.mk (below_step (by repeat (first | (with_reducible first | exact HB.out | apply below_alloc | apply pw_below_drewN | apply below_drew1) | exact HB.out)) hb); clear HO312; clear HB; have HO312 := n0_; have HO317 := n1_; have HB := n2_; clear n0_ n1_ n2_; (try clear hb); (try clear hb2); (try clear hk); (try clear hi); (try clear ho0); obtain ⟨Ao32, co32, eo32⟩ := Kd.R_slice HO317.out; subst eo32) | ((with_reducible refine gate_callee (f := 9) rfl ?_); refine goesL_ (some 68) rfl rfl Try.func9 (by kernel_rfl) rfl #[.slice Ao30 t310.length co30, .slice Ao32 t313.length co32] rfl (by (try simp only [List.map_toArray, List.map_cons, List.map_nil]); first | done | rfl | (simp only [List.length_drop, List.length_take]; rfl)) ?_; (with_reducible refine (darningref4_Apply.calls kj4 _ _ t310 _ _ t313 t320 _ ?side1 ?side2 ?side3 ?side4 A16.out).mono ?_); (case side1 => repeat (first | exact (Kd.R_reads' HO312.out).2.2 | (with_reducible refine Kd.C_alloc ?_ _) | (with_reducible refine Kd.C_drewN ?_ _) | (with_reducible refine Kd.C_drew ?_))); (case side2 => exact (Kd.R_reads' HO312.out).2.1); (case side3 => repeat (first | exact (Kd.R_reads' HO317.out).2.2 | (with_reducible refine Kd.C_alloc ?_ _) | (with_reducible refine Kd.C_drewN ?_ _) | (with_reducible refine Kd.C_drew ?_))); (case side4 => exact (Kd.R_reads' HO317.out).2.1); rintro e w33 ⟨v321, rfl, ho0, hb⟩; refine ⟨_, rfl, ?_⟩; have n0_ := Aside0.mk (Kd.R_elder' (by (with_reducible repeat (first | apply Kd.R_alloc | apply Kd.R_drewN | apply Kd.R_drew)); exact HO312.out) (Kd.R_base ho0) hb); have n1_ := Aside0.mk (Kd.R_below (by (with_reducible repeat (first | apply Kd.R_alloc | apply Kd.R_drewN | apply Kd.R_drew)); exact HO317.out) hb); have n2_ := Aside0.mk (Kd.R_lower (Kd.R_new' ho0 (Kd.R_lt (by (with_reducible repeat (first | apply Kd.R_alloc | apply Kd.R_drewN | apply Kd.R_drew)); exact HO312.out))) (below_size (by repeat (first | (with_reducible first | exact HB.out | apply below_alloc | apply pw_below_drewN | apply below_drew1) | exact HB.out)))); have n3_ := Aside0.mk (below_step (by repeat (first | (with_reducible first | exact HB.out | apply below_alloc | apply pw_below_drewN | apply below_drew1) | exact HB.out)) hb); clear HO312; clear HO317; clear HB; have HO312 := n0_; have HO317 := n1_; have HO322 := n2_; have HB := n3_; clear n0_ n1_ n2_ n3_; (try clear hb); (try clear hb2); (try clear hk); (try clear hi); (try clear ho0); obtain ⟨Ao34, co34, eo34⟩ := Kd.R_slice HO322.out; subst eo34) | ((with_reducible refine gate_callee (f := 10) rfl ?_); refine goesL_ (some 72) rfl rfl Try.func10 (by kernel_rfl) rfl #[.slice Ao34 t320.length co34, .int .i64 t314] rfl (by (try simp only [List.map_toArray, List.map_cons, List.map_nil]); first | done | rfl | (simp only [List.length_drop, List.length_take]; rfl)) ?_; (with_reducible refine (image_Free.calls kj4 _ _ t320 t314 t323 t324 _ ?side1 ?side2 A17.out).mono ?_); (case side1 => repeat (first | exact (Kd.R_reads' HO322.out).2.2 | (with_reducible refine Kd.C_alloc ?_ _) | (with_reducible refine Kd.C_drewN ?_ _) | (with_reducible refine Kd.C_drew ?_))); (case side2 => exact (Kd.R_reads' HO322.out).2.1); rintro e w35 ⟨v325, rfl, ho0, hb⟩; refine ⟨_, rfl, ?_⟩; have n0_ := Aside0.mk (Kd.R_below (by (with_reducible repeat (first | apply Kd.R_alloc | apply Kd.R_drewN | apply Kd.R_drew)); exact HO312.out) hb); have n1_ := Aside0.mk (Kd.R_elder' (by (with_reducible repeat (first | apply Kd.R_alloc | apply Kd.R_drewN | apply Kd.R_drew)); exact HO317.out) (Kd.R_base ho0) hb); have n2_ := Aside0.mk (Kd.R_below (by (with_reducible repeat (first | apply Kd.R_alloc | apply Kd.R_drewN | apply Kd.R_drew)); exact HO322.out) hb); have n3_ := Aside0.mk (Kd.R_lower (Kd.R_new' ho0 (Kd.R_lt (by (with_reducible repeat (first | apply Kd.R_alloc | apply Kd.R_drewN | apply Kd.R_drew)); exact HO317.out))) (below_size (by repeat (first | (with_reducible first | exact HB.out | apply below_alloc | apply pw_below_drewN | apply below_drew1) | exact HB.out)))); have n4_ := Aside0.mk (below_step (by repeat (first | (with_reducible first | exact HB.out | apply below_alloc | apply pw_below_drewN | apply below_drew1) | exact HB.out)) hb); clear HO312; clear HO317; clear HO322; clear HB; have HO312 := n0_; have HO317 := n1_; have HO322 := n2_; have HO326 := n3_; have HB := n4_; clear n0_ n1_ n2_ n3_ n4_; (try clear hb); (try clear hb2); (try clear hk); (try clear hi); (try clear ho0); obtain ⟨Ao36, co36, eo36⟩ := Kd.R_slice HO326.out; subst eo36) | ((with_reducible refine gate_callee (f := 9) rfl ?_); refine goesL_ (some 78) rfl rfl Try.func9 (by kernel_rfl) rfl #[.slice Ao34 t320.length co34, .slice Ao36 t323.length co36] rfl (by (try simp only [List.map_toArray, List.map_cons, List.map_nil]); first | done | rfl | (simp only [List.length_drop, List.length_take]; rfl)) ?_; (with_reducible refine (darningref4_Apply.calls kj4 _ _ t320 _ _ t323 t327 _ ?side1 ?side2 ?side3 ?side4 A18.out).mono ?_); (case side1 => repeat (first | exact (Kd.R_reads' HO322.out).2.2 | (with_reducible refine Kd.C_alloc ?_ _) | (with_reducible refine Kd.C_drewN ?_ _) | (with_reducible refine Kd.C_drew ?_))); (case side2 => exact (Kd.R_reads' HO322.out).2.1); (case side3 => repeat (first | exact (Kd.R_reads' HO326.out).2.2 | (with_reducible refine Kd.C_alloc ?_ _) | (with_reducible refine Kd.C_drewN ?_ _) | (with_reducible refine Kd.C_drew ?_))); (case side4 => exact (Kd.R_reads' HO326.out).2.1); rintro e w37 ⟨v328, rfl, ho0, hb⟩; refine ⟨_, rfl, ?_⟩; have n0_ := Aside0.mk (Kd.R_elder' (by (with_reducible repeat (first | apply Kd.R_alloc | apply Kd.R_drewN | apply Kd.R_drew)); exact HO312.out) (Kd.R_base ho0) hb); have n1_ := Aside0.mk (Kd.R_below (by (with_reducible repeat (first | apply Kd.R_alloc | apply Kd.R_drewN | apply Kd.R_drew)); exact HO317.out) hb); have n2_ := Aside0.mk (Kd.R_elder' (by (with_reducible repeat (first | apply Kd.R_alloc | apply Kd.R_drewN | apply Kd.R_drew)); exact HO322.out) (Kd.R_base ho0) hb); have n3_ := Aside0.mk (Kd.R_below (by (with_reducible repeat (first | apply Kd.R_alloc | apply Kd.R_drewN | apply Kd.R_drew)); exact HO326.out) hb); have n4_ := Aside0.mk (Kd.R_lower (Kd.R_new' (Kd.R_new' ho0 (Kd.R_lt (by (with_reducible repeat (first | apply Kd.R_alloc | apply Kd.R_drewN | apply Kd.R_drew)); exact HO312.out))) (Kd.R_lt (by (with_reducible repeat (first | apply Kd.R_alloc | apply Kd.R_drewN | apply Kd.R_drew)); exact HO322.out))) (below_size (by repeat (first | (with_reducible first | exact HB.out | apply below_alloc | apply pw_below_drewN | apply below_drew1) | exact HB.out)))); have n5_ := Aside0.mk (below_step (by repeat (first | (with_reducible first | exact HB.out | apply below_alloc | apply pw_below_drewN | apply below_drew1) | exact HB.out)) hb); clear HO312; clear HO317; clear HO322; clear HO326; clear HB; have HO312 := n0_; have HO317 := n1_; have HO322 := n2_; have HO326 := n3_; have HO329 := n4_; have HB := n5_; clear n0_ n1_ n2_ n3_ n4_ n5_; (try clear hb); (try clear hb2); (try clear hk); (try clear hi); (try clear ho0); obtain ⟨Ao38, co38, eo38⟩ := Kd.R_slice HO329.out; subst eo38) | ((with_reducible refine gate_callee (f := 11) rfl ?_); refine goesL_ (some 79) rfl rfl Try.func11 (by kernel_rfl) rfl #[.slice Ao38 t327.length co38] rfl (by (try simp only [List.map_toArray, List.map_cons, List.map_nil]); first | done | rfl | (simp only [List.length_drop, List.length_take]; rfl)) ?_; (with_reducible refine (chain_Blocks.calls kj4 _ _ t327 t330 true _ ?side1 ?side2 A19.out).mono ?_); (case side1 => repeat (first | exact (Kd.R_reads' HO329.out).2.2 | (with_reducible refine Kd.C_alloc ?_ _) | (with_reducible refine Kd.C_drewN ?_ _) | (with_reducible refine Kd.C_drew ?_))); (case side2 => exact (Kd.R_reads' HO329.out).2.1); rintro e w39 ⟨v332, rfl, ho0, hb⟩; refine ⟨_, rfl, ?_⟩; have n0_ := Aside0.mk (Kd.R_below (by (with_reducible repeat (first | apply Kd.R_alloc | apply Kd.R_drewN | apply Kd.R_drew)); exact HO312.out) hb); have n1_ := Aside0.mk (Kd.R_below (by (with_reducible repeat (first | apply Kd.R_alloc | apply Kd.R_drewN | apply Kd.R_drew)); exact HO317.out) hb); have n2_ := Aside0.mk (Kd.R_below (by (with_reducible repeat (first | apply Kd.R_alloc | apply Kd.R_drewN | apply Kd.R_drew)); exact HO322.out) hb); have n3_ := Aside0.mk (Kd.R_below (by (with_reducible repeat (first | apply Kd.R_alloc | apply Kd.R_drewN | apply Kd.R_drew)); exact HO326.out) hb); have n4_ := Aside0.mk (Kd.R_below (by (with_reducible repeat (first | apply Kd.R_alloc | apply Kd.R_drewN | apply Kd.R_drew)); exact HO329.out) hb); have n5_ := Aside0.mk (Kd.R_lower ho0 (below_size (by repeat (first | (with_reducible first | exact HB.out | apply below_alloc | apply pw_below_drewN | apply below_drew1) | exact HB.out)))); have n6_ := Aside0.mk (below_step (by repeat (first | (with_reducible first | exact HB.out | apply below_alloc | apply pw_below_drewN | apply below_drew1) | exact HB.out)) hb); clear HO312; clear HO317; clear HO322; clear HO326; clear HO329; clear HB; have HO312 := n0_; have HO317 := n1_; have HO322 := n2_; have HO326 := n3_; have HO329 := n4_; have HO333 := n5_; have HB := n6_; clear n0_ n1_ n2_ n3_ n4_ n5_ n6_; (try clear hb); (try clear hb2); (try clear hk); (try clear hi); (try clear ho0)) | ((with_reducible refine gate_callee (f := 9) rfl ?_); refine goesL_ (some 85) rfl rfl Try.func9 (by kernel_rfl) rfl #[.slice Ao34 t320.length co34, .slice Ao36 t323.length co36] rfl (by (try simp only [List.map_toArray, List.map_cons, List.map_nil]); first | done | rfl | (simp only [List.length_drop, List.length_take]; rfl)) ?_; (with_reducible refine (darningref4_Apply.calls kj4 _ _ t320 _ _ t323 t334 _ ?side1 ?side2 ?side3 ?side4 A20.out).mono ?_); (case side1 => repeat (first | exact (Kd.R_reads' HO322.out).2.2 | (with_reducible refine Kd.C_alloc ?_ _) | (with_reducible refine Kd.C_drewN ?_ _) | (with_reducible refine Kd.C_drew ?_))); (case side2 => exact (Kd.R_reads' HO322.out).2.1); (case side3 => repeat (first | exact (Kd.R_reads' HO326.out).2.2 | (with_reducible refine Kd.C_alloc ?_ _) | (with_reducible refine Kd.C_drewN ?_ _) | (with_reducible refine Kd.C_drew ?_))); (case side4 => exact (Kd.R_reads' HO326.out).2.1); rintro e w40 ⟨v335, rfl, ho0, hb⟩; refine ⟨_, rfl, ?_⟩; have n0_ := Aside0.mk (Kd.R_elder' (by (with_reducible repeat (first | apply Kd.R_alloc | apply Kd.R_drewN | apply Kd.R_drew)); exact HO312.out) (Kd.R_base ho0) hb); have n1_ := Aside0.mk (Kd.R_below (by (with_reducible repeat (first | apply Kd.R_alloc | apply Kd.R_drewN | apply Kd.R_drew)); exact HO317.out) hb); have n2_ := Aside0.mk (Kd.R_elder' (by (with_reducible repeat (first | apply Kd.R_alloc | apply Kd.R_drewN | apply Kd.R_drew)); exact HO322.out) (Kd.R_base ho0) hb); have n3_ := Aside0.mk (Kd.R_below (by (with_reducible repeat (first | apply Kd.R_alloc | apply Kd.R_drewN | apply Kd.R_drew)); exact HO326.out) hb); have n4_ := Aside0.mk (Kd.R_elder' (by (with_reducible repeat (first | apply Kd.R_alloc | apply Kd.R_drewN | apply Kd.R_drew)); exact HO329.out) (Kd.R_base ho0) hb); have n5_ := Aside0.mk (Kd.R_below (by (with_reducible repeat (first | apply Kd.R_alloc | apply Kd.R_drewN | apply Kd.R_drew)); exact HO333.out) hb); have n6_ := Aside0.mk (Kd.R_lower (Kd.R_new' (Kd.R_new' (Kd.R_new' ho0 (Kd.R_lt (by (with_reducible repeat (first | apply Kd.R_alloc | apply Kd.R_drewN | apply Kd.R_drew)); exact HO312.out))) (Kd.R_lt (by (with_reducible repeat (first | apply Kd.R_alloc | apply Kd.R_drewN | apply Kd.R_drew)); exact HO322.out))) (Kd.R_lt (by (with_reducible repeat (first | apply Kd.R_alloc | apply Kd.R_drewN | apply Kd.R_drew)); exact HO329.out))) (below_size (by repeat (first | (with_reducible first | exact HB.out | apply below_alloc | apply pw_below_drewN | apply below_drew1) | exact HB.out)))); have n7_ := Aside0.mk (below_step (by repeat (first | (with_reducible first | exact HB.out | apply below_alloc | apply pw_below_drewN | apply below_drew1) | exact HB.out)) hb); clear HO312; clear HO317; clear HO322; clear HO326; clear HO329; clear HO333; clear HB; have HO312 := n0_; have HO317 := n1_; have HO322 := n2_; have HO326 := n3_; have HO329 := n4_; have HO333 := n5_; have HO336 := n6_; have HB := n7_; clear n0_ n1_ n2_ n3_ n4_ n5_ n6_ n7_; (try clear hb); (try clear hb2); (try clear hk); (try clear hi); (try clear ho0); obtain ⟨Ao41, co41, eo41⟩ := Kd.R_slice HO336.out; subst eo41) | ((with_reducible refine gate_callee (f := 10) rfl ?_); refine goesL_ (some 87) rfl rfl Try.func10 (by kernel_rfl) rfl #[.slice Ao41 t334.length co41, .int .i64 t314] rfl (by (try simp only [List.map_toArray, List.map_cons, List.map_nil]); first | done | rfl | (simp only [List.length_drop, List.length_take]; rfl)) ?_; (with_reducible refine (image_Free.calls kj4 _ _ t334 t314 t337 t338 _ ?side1 ?side2 A21.out).mono ?_); (case side1 => repeat (first | exact (Kd.R_reads' HO336.out).2.2 | (with_reducible refine Kd.C_alloc ?_ _) | (with_reducible refine Kd.C_drewN ?_ _) | (with_reducible refine Kd.C_drew ?_))); (case side2 => exact (Kd.R_reads' HO336.out).2.1); rintro e w42 ⟨v339, rfl, ho0, hb⟩; refine ⟨_, rfl, ?_⟩; have n0_ := Aside0.mk (Kd.R_below (by (with_reducible repeat (first | apply Kd.R_alloc | apply Kd.R_drewN | apply Kd.R_drew)); exact HO312.out) hb); have n1_ := Aside0.mk (Kd.R_elder' (by (with_reducible repeat (first | apply Kd.R_alloc | apply Kd.R_drewN | apply Kd.R_drew)); exact HO317.out) (Kd.R_base ho0) hb); have n2_ := Aside0.mk (Kd.R_below (by (with_reducible repeat (first | apply Kd.R_alloc | apply Kd.R_drewN | apply Kd.R_drew)); exact HO322.out) hb); have n3_ := Aside0.mk (Kd.R_elder' (by (with_reducible repeat (first | apply Kd.R_alloc | apply Kd.R_drewN | apply Kd.R_drew)); exact HO326.out) (Kd.R_base ho0) hb); have n4_ := Aside0.mk (Kd.R_below (by (with_reducible repeat (first | apply Kd.R_alloc | apply Kd.R_drewN | apply Kd.R_drew)); exact HO329.out) hb); have n5_ := Aside0.mk (Kd.R_below (by (with_reducible repeat (first | apply Kd.R_alloc | apply Kd.R_drewN | apply Kd.R_drew)); exact HO333.out) hb); have n6_ := Aside0.mk (Kd.R_below (by (with_reducible repeat (first | apply Kd.R_alloc | apply Kd.R_drewN | apply Kd.R_drew)); exact HO336.out) hb); have n7_ := Aside0.mk (Kd.R_lower (Kd.R_new' (Kd.R_new' ho0 (Kd.R_lt (by (with_reducible repeat (first | apply Kd.R_alloc | apply Kd.R_drewN | apply Kd.R_drew)); exact HO317.out))) (Kd.R_lt (by (with_reducible repeat (first | apply Kd.R_alloc | apply Kd.R_drewN | apply Kd.R_drew)); exact HO326.out))) (below_size (by repeat (first | (with_reducible first | exact HB.out | apply below_alloc | apply pw_below_drewN | apply below_drew1) | exact HB.out)))); have n8_ := Aside0.mk (below_step (by repeat (first | (with_reducible first | exact HB.out | apply below_alloc | apply pw_below_drewN | apply below_drew1) | exact HB.out)) hb); clear HO312; clear HO317; clear HO322; clear HO326; clear HO329; clear HO333; clear HO336; clear HB; have HO312 := n0_; have HO317 := n1_; have HO322 := n2_; have HO326 := n3_; have HO329 := n4_; have HO333 := n5_; have HO336 := n6_; have HO340 := n7_; have HB := n8_; clear n0_ n1_ n2_ n3_ n4_ n5_ n6_ n7_ n8_; (try clear hb); (try clear hb2); (try clear hk); (try clear hi); (try clear ho0); obtain ⟨Ao43, co43, eo43⟩ := Kd.R_slice HO333.out; subst eo43) | (go_at_call 12; (with_reducible refine (darningref4_SameBlocks.calls kj4 _ _ t330 _ _ l0 true _ ?side1 ?side2 ?side3 ?side4 A25.out).mono ?_); (case side1 => repeat (first | exact (Kd.R_reads' HO333.out).2.2 | (with_reducible refine Kd.C_alloc ?_ _) | (with_reducible refine Kd.C_drewN ?_ _) | (with_reducible refine Kd.C_drew ?_))); (case side2 => exact (Kd.R_reads' HO333.out).2.1); (case side3 => repeat (first | exact (Kd.C_below HR0.out HB.out) | (with_reducible refine Kd.C_alloc ?_ _) | (with_reducible refine Kd.C_drewN ?_ _) | (with_reducible refine Kd.C_drew ?_))); (case side4 => exact HC0.out); rintro e w' ⟨rfl, ⟨nd, rfl⟩⟩) | (go_at_call 6; (with_reducible refine (darninglaw19_awake.calls kj4   _ A28.out).mono ?_); rintro e w44 ⟨rfl, hb⟩; have n0_ := Aside0.mk (Kd.R_below (by (with_reducible repeat (first | apply Kd.R_alloc | apply Kd.R_drewN | apply Kd.R_drew)); exact HO312.out) hb); have n1_ := Aside0.mk (Kd.R_below (by (with_reducible repeat (first | apply Kd.R_alloc | apply Kd.R_drewN | apply Kd.R_drew)); exact HO317.out) hb); have n2_ := Aside0.mk (Kd.R_below (by (with_reducible repeat (first | apply Kd.R_alloc | apply Kd.R_drewN | apply Kd.R_drew)); exact HO322.out) hb); have n3_ := Aside0.mk (Kd.R_below (by (with_reducible repeat (first | apply Kd.R_alloc | apply Kd.R_drewN | apply Kd.R_drew)); exact HO326.out) hb); have n4_ := Aside0.mk (Kd.R_below (by (with_reducible repeat (first | apply Kd.R_alloc | apply Kd.R_drewN | apply Kd.R_drew)); exact HO329.out) hb); have n5_ := Aside0.mk (Kd.R_below (by (with_reducible repeat (first | apply Kd.R_alloc | apply Kd.R_drewN | apply Kd.R_drew)); exact HO333.out) hb); have n6_ := Aside0.mk (Kd.R_below (by (with_reducible repeat (first | apply Kd.R_alloc | apply Kd.R_drewN | apply Kd.R_drew)); exact HO336.out) hb); have n7_ := Aside0.mk (Kd.R_below (by (with_reducible repeat (first | apply Kd.R_alloc | apply Kd.R_drewN | apply Kd.R_drew)); exact HO340.out) hb); have n8_ := Aside0.mk (below_step (by repeat (first | (with_reducible first | exact HB.out | apply below_alloc | apply pw_below_drewN | apply below_drew1) | exact HB.out)) hb); clear HO312; clear HO317; clear HO322; clear HO326; clear HO329; clear HO333; clear HO336; clear HO340; clear HB; have HO312 := n0_; have HO317 := n1_; have HO322 := n2_; have HO326 := n3_; have HO329 := n4_; have HO333 := n5_; have HO336 := n6_; have HO340 := n7_; have HB := n8_; clear n0_ n1_ n2_ n3_ n4_ n5_ n6_ n7_ n8_; (try clear hb); (try clear hb2); (try clear hk); (try clear hi)))
          go_ret
          exact ⟨by first | rfl | (rw [HRA_.out]) | (simp only [HRA_.out]; done) | (simp only [← HRA_.out]; done) | (have HR_ := HRA_.out; simp_all) | (simp [errW_none, errW_some] <;> rfl) | (simp [*, errW_none, errW_some] <;> rfl), by repeat (first | (with_reducible first | exact HB.out | apply below_alloc | apply pw_below_drewN | apply below_drew1) | exact HB.out)⟩
         ·
          rw [if_neg c27] at H
          have c27b0 : (t338 == 1) = false := beq_eq_false_iff_ne.mpr c27
          have c27b1 : (t338 != 1) = true := bne_iff_ne.mpr c27
          exact absurd H (by simp)
        ·
         replace c26 := Bool.eq_false_iff.mpr c26
         subst c26
         have H1 : (some false) = some true := by rw [if_neg (show ¬ (false = true) by decide)] at H; exact H
         clear H
         have H := H1
         clear H1
         exact absurd H (by simp)
       ·
        replace c24 := Bool.eq_false_iff.mpr c24
        subst c24
        have H1 : (some false) = some true := by rw [if_neg (show ¬ (false = true) by decide)] at H; exact H
        clear H
        have H := H1
        clear H1
        exact absurd H (by simp)
      ·
       rw [if_neg c23] at H
       have c23b0 : ((t323.length : Int) == 1) = false := beq_eq_false_iff_ne.mpr c23
       have c23b1 : ((t323.length : Int) != 1) = true := bne_iff_ne.mpr c23
       exact absurd H (by simp)
     ·
      rw [if_neg c22] at H
      have c22b0 : (t324 == 0) = false := beq_eq_false_iff_ne.mpr c22
      have c22b1 : (t324 != 0) = true := bne_iff_ne.mpr c22
      exact absurd H (by simp)
    ·
     rw [if_neg c15] at H
     have c15b0 : (t315 == 0) = false := beq_eq_false_iff_ne.mpr c15
     have c15b1 : (t315 != 0) = true := bne_iff_ne.mpr c15
     by_cases c45 : (t313.length : Int) = 0
     ·
      rw [if_pos c45] at H
      have c45b0 : ((t313.length : Int) == 0) = true := beq_iff_eq.mpr c45
      have c45b1 : ((t313.length : Int) != 0) = false := bne_eq_false_iff_eq.mpr c45
      clear c45
      by_cases c46 : t314 = 0
      ·
       rw [if_pos c46] at H
       have c46b0 : (t314 == 0) = true := beq_iff_eq.mpr c46
       have c46b1 : (t314 != 0) = false := bne_eq_false_iff_eq.mpr c46
       clear c46
       by_cases c47 : t315 = 1
       ·
        rw [if_pos c47] at H
        have c47b0 : (t315 == 1) = true := beq_iff_eq.mpr c47
        have c47b1 : (t315 != 1) = false := bne_eq_false_iff_eq.mpr c47
        clear c47
        replace H := Option.bind_eq_some_iff.mp H
        obtain ⟨t318, A480, H⟩ := H
        replace H : (some t318) = some true := H
        have A48 := Aside0.mk A480
        clear A480
        obtain rfl : t318 = true := Option.some.inj H
        go_wp2_with (first | ((with_reducible refine gate_callee (f := 7) rfl ?_); refine goesL_ (some 37) rfl rfl Try.func7 (by kernel_rfl) rfl #[.slice A0 l0.length c0, .int .i64 a1] rfl (by (try simp only [List.map_toArray, List.map_cons, List.map_nil]); first | done | rfl | (simp only [List.length_drop, List.length_take]; rfl)) ?_; (with_reducible refine (darninglaw14_Words.calls kj4 _ _ l0 a1 t310 _ ?side1 ?side2 A13.out).mono ?_); (case side1 => repeat (first | exact (Kd.C_below HR0.out HB.out) | (with_reducible refine Kd.C_alloc ?_ _) | (with_reducible refine Kd.C_drewN ?_ _) | (with_reducible refine Kd.C_drew ?_))); (case side2 => exact HC0.out); rintro e w49 ⟨v311, rfl, ho0, hb⟩; refine ⟨_, rfl, ?_⟩; have n0_ := Aside0.mk (Kd.R_lower ho0 (below_size (by repeat (first | (with_reducible first | exact HB.out | apply below_alloc | apply pw_below_drewN | apply below_drew1) | exact HB.out)))); have n1_ := Aside0.mk (below_step (by repeat (first | (with_reducible first | exact HB.out | apply below_alloc | apply pw_below_drewN | apply below_drew1) | exact HB.out)) hb); clear HB; have HO312 := n0_; have HB := n1_; clear n0_ n1_; (try clear hb); (try clear hb2); (try clear hk); (try clear hi); (try clear ho0); obtain ⟨Ao50, co50, eo50⟩ := Kd.R_slice HO312.out; subst eo50) | ((with_reducible refine gate_callee (f := 8) rfl ?_); refine goesL_ (some 42) rfl rfl Try.func8 (by kernel_rfl) rfl #[.slice Ao50 t310.length co50, .int .i64 a2, .slice A3 l3.length c3] rfl (by (try simp only [List.map_toArray, List.map_cons, List.map_nil]); first | done | rfl | (simp only [List.length_drop, List.length_take]; rfl)) ?_; (with_reducible refine (image_Alloc.calls kj4 _ _ t310 a2 _ _ l3 t313 t314 t315 _ ?side1 ?side2 ?side3 ?side4 A14.out).mono ?_); (case side1 => repeat (first | exact (Kd.R_reads' HO312.out).2.2 | (with_reducible refine Kd.C_alloc ?_ _) | (with_reducible refine Kd.C_drewN ?_ _) | (with_reducible refine Kd.C_drew ?_))); (case side2 => exact (Kd.R_reads' HO312.out).2.1); (case side3 => repeat (first | exact (Kd.C_below HR3.out HB.out) | (with_reducible refine Kd.C_alloc ?_ _) | (with_reducible refine Kd.C_drewN ?_ _) | (with_reducible refine Kd.C_drew ?_))); (case side4 => exact HC3.out); rintro e w51 ⟨v316, rfl, ho0, hb⟩; refine ⟨_, rfl, ?_⟩; have n0_ := Aside0.mk (Kd.R_below (by (with_reducible repeat (first | apply Kd.R_alloc | apply Kd.R_drewN | apply Kd.R_drew)); exact HO312.out) hb); have n1_ := Aside0.mk (Kd.R_lower ho0 (below_size (by repeat (first | (with_reducible first | exact HB.out | apply below_alloc | apply pw_below_drewN | apply below_drew1) | exact HB.out)))); have n2_ := Aside0.mk (below_step (by repeat (first | (with_reducible first | exact HB.out | apply below_alloc | apply pw_below_drewN | apply below_drew1) | exact HB.out)) hb); clear HO312; clear HB; have HO312 := n0_; have HO317 := n1_; have HB := n2_; clear n0_ n1_ n2_; (try clear hb); (try clear hb2); (try clear hk); (try clear hi); (try clear ho0); obtain ⟨Ao52, co52, eo52⟩ := Kd.R_slice HO317.out; subst eo52) | (go_at_call 6; (with_reducible refine (darninglaw19_awake.calls kj4   _ A48.out).mono ?_); rintro e w53 ⟨rfl, hb⟩; have n0_ := Aside0.mk (Kd.R_below (by (with_reducible repeat (first | apply Kd.R_alloc | apply Kd.R_drewN | apply Kd.R_drew)); exact HO312.out) hb); have n1_ := Aside0.mk (Kd.R_below (by (with_reducible repeat (first | apply Kd.R_alloc | apply Kd.R_drewN | apply Kd.R_drew)); exact HO317.out) hb); have n2_ := Aside0.mk (below_step (by repeat (first | (with_reducible first | exact HB.out | apply below_alloc | apply pw_below_drewN | apply below_drew1) | exact HB.out)) hb); clear HO312; clear HO317; clear HB; have HO312 := n0_; have HO317 := n1_; have HB := n2_; clear n0_ n1_ n2_; (try clear hb); (try clear hb2); (try clear hk); (try clear hi)))
        go_ret
        exact ⟨by first | rfl | (rw [HRA_.out]) | (simp only [HRA_.out]; done) | (simp only [← HRA_.out]; done) | (have HR_ := HRA_.out; simp_all) | (simp [errW_none, errW_some] <;> rfl) | (simp [*, errW_none, errW_some] <;> rfl), by repeat (first | (with_reducible first | exact HB.out | apply below_alloc | apply pw_below_drewN | apply below_drew1) | exact HB.out)⟩
       ·
        rw [if_neg c47] at H
        have c47b0 : (t315 == 1) = false := beq_eq_false_iff_ne.mpr c47
        have c47b1 : (t315 != 1) = true := bne_iff_ne.mpr c47
        by_cases c54 : t315 = 4
        ·
         rw [if_pos c54] at H
         have c54b0 : (t315 == 4) = true := beq_iff_eq.mpr c54
         have c54b1 : (t315 != 4) = false := bne_eq_false_iff_eq.mpr c54
         clear c54
         replace H := Option.bind_eq_some_iff.mp H
         obtain ⟨t319, A550, H⟩ := H
         replace H : (some t319) = some true := H
         have A55 := Aside0.mk A550
         clear A550
         obtain rfl : t319 = true := Option.some.inj H
         go_wp2_with (first | ((with_reducible refine gate_callee (f := 7) rfl ?_); refine goesL_ (some 37) rfl rfl Try.func7 (by kernel_rfl) rfl #[.slice A0 l0.length c0, .int .i64 a1] rfl (by (try simp only [List.map_toArray, List.map_cons, List.map_nil]); first | done | rfl | (simp only [List.length_drop, List.length_take]; rfl)) ?_; (with_reducible refine (darninglaw14_Words.calls kj4 _ _ l0 a1 t310 _ ?side1 ?side2 A13.out).mono ?_); (case side1 => repeat (first | exact (Kd.C_below HR0.out HB.out) | (with_reducible refine Kd.C_alloc ?_ _) | (with_reducible refine Kd.C_drewN ?_ _) | (with_reducible refine Kd.C_drew ?_))); (case side2 => exact HC0.out); rintro e w56 ⟨v311, rfl, ho0, hb⟩; refine ⟨_, rfl, ?_⟩; have n0_ := Aside0.mk (Kd.R_lower ho0 (below_size (by repeat (first | (with_reducible first | exact HB.out | apply below_alloc | apply pw_below_drewN | apply below_drew1) | exact HB.out)))); have n1_ := Aside0.mk (below_step (by repeat (first | (with_reducible first | exact HB.out | apply below_alloc | apply pw_below_drewN | apply below_drew1) | exact HB.out)) hb); clear HB; have HO312 := n0_; have HB := n1_; clear n0_ n1_; (try clear hb); (try clear hb2); (try clear hk); (try clear hi); (try clear ho0); obtain ⟨Ao57, co57, eo57⟩ := Kd.R_slice HO312.out; subst eo57) | ((with_reducible refine gate_callee (f := 8) rfl ?_); refine goesL_ (some 42) rfl rfl Try.func8 (by kernel_rfl) rfl #[.slice Ao57 t310.length co57, .int .i64 a2, .slice A3 l3.length c3] rfl (by (try simp only [List.map_toArray, List.map_cons, List.map_nil]); first | done | rfl | (simp only [List.length_drop, List.length_take]; rfl)) ?_; (with_reducible refine (image_Alloc.calls kj4 _ _ t310 a2 _ _ l3 t313 t314 t315 _ ?side1 ?side2 ?side3 ?side4 A14.out).mono ?_); (case side1 => repeat (first | exact (Kd.R_reads' HO312.out).2.2 | (with_reducible refine Kd.C_alloc ?_ _) | (with_reducible refine Kd.C_drewN ?_ _) | (with_reducible refine Kd.C_drew ?_))); (case side2 => exact (Kd.R_reads' HO312.out).2.1); (case side3 => repeat (first | exact (Kd.C_below HR3.out HB.out) | (with_reducible refine Kd.C_alloc ?_ _) | (with_reducible refine Kd.C_drewN ?_ _) | (with_reducible refine Kd.C_drew ?_))); (case side4 => exact HC3.out); rintro e w58 ⟨v316, rfl, ho0, hb⟩; refine ⟨_, rfl, ?_⟩; have n0_ := Aside0.mk (Kd.R_below (by (with_reducible repeat (first | apply Kd.R_alloc | apply Kd.R_drewN | apply Kd.R_drew)); exact HO312.out) hb); have n1_ := Aside0.mk (Kd.R_lower ho0 (below_size (by repeat (first | (with_reducible first | exact HB.out | apply below_alloc | apply pw_below_drewN | apply below_drew1) | exact HB.out)))); have n2_ := Aside0.mk (below_step (by repeat (first | (with_reducible first | exact HB.out | apply below_alloc | apply pw_below_drewN | apply below_drew1) | exact HB.out)) hb); clear HO312; clear HB; have HO312 := n0_; have HO317 := n1_; have HB := n2_; clear n0_ n1_ n2_; (try clear hb); (try clear hb2); (try clear hk); (try clear hi); (try clear ho0); obtain ⟨Ao59, co59, eo59⟩ := Kd.R_slice HO317.out; subst eo59) | (go_at_call 6; (with_reducible refine (darninglaw19_awake.calls kj4   _ A55.out).mono ?_); rintro e w60 ⟨rfl, hb⟩; have n0_ := Aside0.mk (Kd.R_below (by (with_reducible repeat (first | apply Kd.R_alloc | apply Kd.R_drewN | apply Kd.R_drew)); exact HO312.out) hb); have n1_ := Aside0.mk (Kd.R_below (by (with_reducible repeat (first | apply Kd.R_alloc | apply Kd.R_drewN | apply Kd.R_drew)); exact HO317.out) hb); have n2_ := Aside0.mk (below_step (by repeat (first | (with_reducible first | exact HB.out | apply below_alloc | apply pw_below_drewN | apply below_drew1) | exact HB.out)) hb); clear HO312; clear HO317; clear HB; have HO312 := n0_; have HO317 := n1_; have HB := n2_; clear n0_ n1_ n2_; (try clear hb); (try clear hb2); (try clear hk); (try clear hi)))
         go_ret
         exact ⟨by first | rfl | (rw [HRA_.out]) | (simp only [HRA_.out]; done) | (simp only [← HRA_.out]; done) | (have HR_ := HRA_.out; simp_all) | (simp [errW_none, errW_some] <;> rfl) | (simp [*, errW_none, errW_some] <;> rfl), by repeat (first | (with_reducible first | exact HB.out | apply below_alloc | apply pw_below_drewN | apply below_drew1) | exact HB.out)⟩
        ·
         rw [if_neg c54] at H
         have c54b0 : (t315 == 4) = false := beq_eq_false_iff_ne.mpr c54
         have c54b1 : (t315 != 4) = true := bne_iff_ne.mpr c54
         exact absurd H (by simp)
      ·
       rw [if_neg c46] at H
       have c46b0 : (t314 == 0) = false := beq_eq_false_iff_ne.mpr c46
       have c46b1 : (t314 != 0) = true := bne_iff_ne.mpr c46
       exact absurd H (by simp)
     ·
      rw [if_neg c45] at H
      have c45b0 : ((t313.length : Int) == 0) = false := beq_eq_false_iff_ne.mpr c45
      have c45b1 : ((t313.length : Int) != 0) = true := bne_iff_ne.mpr c45
      have c45b2 : ¬ (t313 = []) := fun h_ => c45 (by rw [h_]; rfl)
      exact absurd H (by simp)
/-- What a value of type 45 that is read fits. -/
def wfT45 (x : S45) : Prop := (Lit.int .i64 x.f0).wf = true ∧ (Lit.int .i64 x.f1).wf = true ∧ True

/-- THE ONE PURE STATEMENT of darninglaw19_ImageBack. -/
def darninglaw19_ImageBack.Pure : Prop := ∀ (l0 : List (S45)) (a1 : Int) (a2 : Int) (l3 : List Int), l0.length ≤ maxLen → l0.length * 24 ≤ 140737488351232 → (∀ x ∈ l0, wfT45 x) → (Lit.int .i64 a1).wf = true → (Lit.int .i64 a2).wf = true → l3.length ≤ maxLen → l3.length * 8 ≤ 140737488351232 → (∀ x ∈ l3, (Lit.int .i64 x).wf = true) → ∃ k, darninglaw19_ImageBack.f k l0 a1 a2 l3 = some true
theorem darninglaw19_ImageBack.walk (P : darninglaw19_ImageBack.Pure) (A0 : Option Addr) (c0 : Nat) (l0 : List (S45)) (a1 : Int) (a2 : Int) (A3 : Option Addr) (c3 : Nat) (l3 : List Int) (w : World) (hr0 : Kd.C k45 w A0 l0.length l0) (hc0 : l0.length ≤ c0) (hr3 : Kd.C (Kd.int .i64) w A3 l3.length l3) (hc3 : l3.length ≤ c3) (hm0 : l0.length ≤ maxLen) (y0 : l0.length * 24 ≤ 140737488351232) (hw0 : (∀ x ∈ l0, wfT45 x)) (w1 : (Lit.int .i64 a1).wf = true) (w2 : (Lit.int .i64 a2).wf = true) (hm3 : l3.length ≤ maxLen) (y3 : l3.length * 8 ≤ 140737488351232) (hw3 : (∀ x ∈ l3, (Lit.int .i64 x).wf = true)) :
  Calls Try.prog 3 #[.slice A0 l0.length c0, .int .i64 a1, .int .i64 a2, .slice A3 l3.length c3] w fun e w' => e = .returned (.bool true) ∧ Below w.heap.size w w' := by
 obtain ⟨k, h⟩ := P l0 a1 a2 l3 hm0 y0 hw0 w1 w2 hm3 y3 hw3
 refine (darninglaw19_ImageBack.calls k A0 c0 l0 a1 a2 A3 c3 l3 w hr0 hc0 hr3 hc3 h).mono ?_
 rintro e w' ⟨rfl, hd⟩
 exact ⟨rfl, hd⟩

end Go.Proofs.Ytglekonhdjploab.XImageBack
