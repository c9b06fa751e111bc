-- printed by wip/xprint.py
import Derived.Test.YtglekonhdjploaaXImageFormsx0
import Derived.Test.YtglekonhdjploaaXImageFormsx16
import Derived.Test.YtglekonhdjploaaXImageFormsx23
import Derived.Test.YtglekonhdjploaaXImageFormsx24
namespace Go.Proofs.Ytglekonhdjploaa.XImageForms
open Go.RowKit Go.Proofs.YtglekonhdjploaaW.PrintWords Go.Proofs.YtglekonhdjploaaW.PrintLast Go.Proofs.YtglekonhdjploaaW.PrintMore
attribute [local go_sem] max2_int min2_int max_two min_two max_three min_three max_four min_four
set_option linter.unusedVariables false
set_option linter.unusedSimpArgs false

/-! ### darningref4_ByteEdits: function 79 -/
mutual
def darningref4_ByteEdits.l0 : Nat → List Int → Int → List (S30) → List Int → Int → Int → Option ((List (S30)) × Bool)
 | 0, _, _, _, _, _, _ => none
 | k + 1, x0, x1, x8, x22, x23, x24 => if x24 < x23 then (if 0 ≤ x24 then (if x24 < (x22.length : Int) then (if (x8.length : Int) = 0 then (darningref4_ByteEdits.j1 k x0 x1 x8 (rd x22 x24) (wrap64 (Int.tdiv (wrap64 (x1 + x24)) 8)) (IntKind.u64.wrap (wrap64 ((Int.tmod (wrap64 (x1 + x24)) 8) * 8))) x22 x23 x24 true) else (if 0 ≤ (wrap64 ((x8.length : Int) - 1)) then (if (wrap64 ((x8.length : Int) - 1)) < (x8.length : Int) then (darningref4_ByteEdits.j1 k x0 x1 x8 (rd x22 x24) (wrap64 (Int.tdiv (wrap64 (x1 + x24)) 8)) (IntKind.u64.wrap (wrap64 ((Int.tmod (wrap64 (x1 + x24)) 8) * 8))) x22 x23 x24 (((rd_T30 x8 (wrap64 ((x8.length : Int) - 1))).f0) != (wrap64 (Int.tdiv (wrap64 (x1 + x24)) 8)))) else (none)) else (none))) else (none)) else (none)) else (some (x8, true))
def darningref4_ByteEdits.j2 : Nat → List Int → Int → List (S30) → List Int → Int → Int → Option ((List (S30)) × Bool)
 | 0, _, _, _, _, _, _ => none
 | k + 1, x0, x1, x8, x22, x23, x24 => darningref4_ByteEdits.l0 k x0 x1 x8 x22 x23 (wrap64 (x24 + 1))
def darningref4_ByteEdits.j1 : Nat → List Int → Int → List (S30) → Int → Int → Int → List Int → Int → Int → Bool → Option ((List (S30)) × Bool)
 | 0, _, _, _, _, _, _, _, _, _, _ => none
 | k + 1, x0, x1, x8, x10, x11, x12, x22, x23, x24, x52 => if x52 = true then (if 0 ≤ x11 then (if x11 < (x0.length : Int) then (if x8.length < 8796093022208 then ((some (x8 ++ [(⟨x11, rd x0 x11⟩ : S30)] : List (S30))).bind fun y475 => (if 0 ≤ (wrap64 ((y475.length : Int) - 1)) then (if (wrap64 ((y475.length : Int) - 1)) < (y475.length : Int) then (if 0 ≤ x12 then (darningref4_ByteEdits.j2 k x0 x1 (y475.set ((wrap64 ((y475.length : Int) - 1)) : Int).toNat (⟨(rd_T30 y475 (wrap64 ((y475.length : Int) - 1))).f0, Go.bits .or .u64 (Go.bits .andNot .u64 ((rd_T30 y475 (wrap64 ((y475.length : Int) - 1))).f1) (shl .u64 255 x12)) (shl .u64 (IntKind.u64.wrap (x10)) x12)⟩ : S30)) x22 x23 x24) else (none)) else (none)) else (none))) else (none)) else (none)) else (none)) else (if 0 ≤ (wrap64 ((x8.length : Int) - 1)) then (if (wrap64 ((x8.length : Int) - 1)) < (x8.length : Int) then (if 0 ≤ x12 then (darningref4_ByteEdits.j2 k x0 x1 (x8.set ((wrap64 ((x8.length : Int) - 1)) : Int).toNat (⟨(rd_T30 x8 (wrap64 ((x8.length : Int) - 1))).f0, Go.bits .or .u64 (Go.bits .andNot .u64 ((rd_T30 x8 (wrap64 ((x8.length : Int) - 1))).f1) (shl .u64 255 x12)) (shl .u64 (IntKind.u64.wrap (x10)) x12)⟩ : S30)) x22 x23 x24) else (none)) else (none)) else (none))
end
def darningref4_ByteEdits.f (k : Nat) (l0 : List Int) (a1 : Int) (l2 : List Int) : Option ((List (S30)) × Bool) := (darningref4_inside.f (l0.length : Int) a1 (l2.length : Int)).bind fun t471 => (if t471 = true then (darningref4_ByteEdits.l0 k l0 a1 ([] : List (S30)) l2 (l2.length : Int) 0) else (some (([] : List (S30)), false)))
theorem darningref4_ByteEdits.mono_l : ∀ k, (∀ y0 y1 y2 y3 y4 y5, LeO (darningref4_ByteEdits.l0 k y0 y1 y2 y3 y4 y5) (darningref4_ByteEdits.l0 (k + 1) y0 y1 y2 y3 y4 y5)) ∧ (∀ y0 y1 y2 y3 y4 y5, LeO (darningref4_ByteEdits.j2 k y0 y1 y2 y3 y4 y5) (darningref4_ByteEdits.j2 (k + 1) y0 y1 y2 y3 y4 y5)) ∧ (∀ y0 y1 y2 y3 y4 y5 y6 y7 y8 y9, LeO (darningref4_ByteEdits.j1 k y0 y1 y2 y3 y4 y5 y6 y7 y8 y9) (darningref4_ByteEdits.j1 (k + 1) y0 y1 y2 y3 y4 y5 y6 y7 y8 y9))
 | 0 => ⟨fun _ _ _ _ _ _ r h => by simp [darningref4_ByteEdits.l0] at h, fun _ _ _ _ _ _ r h => by simp [darningref4_ByteEdits.j2] at h, fun _ _ _ _ _ _ _ _ _ _ r h => by simp [darningref4_ByteEdits.j1] at h⟩
 | k + 1 => by
  obtain ⟨ih0, ih1, ih2⟩ := darningref4_ByteEdits.mono_l k
  refine ⟨?_, ?_, ?_⟩
  ·
   intro y0 y1 y2 y3 y4 y5
   unfold darningref4_ByteEdits.l0
   repeat' first
   | (with_reducible exact ih0 _ _ _ _ _ _)
   | (with_reducible exact ih1 _ _ _ _ _ _)
   | (with_reducible exact ih2 _ _ _ _ _ _ _ _ _ _)
   | (with_reducible exact LeO.refl _)
   | (with_reducible exact LeO.none _)
   | (with_reducible refine LeO.ite ?_ ?_)
   | (with_reducible refine LeO.bind ?_ (fun _ => ?_))
   | exact ih0 _ _ _ _ _ _
   | exact ih1 _ _ _ _ _ _
   | exact ih2 _ _ _ _ _ _ _ _ _ _
   | exact LeO.none _
   | refine LeO.ite ?_ ?_
   | refine LeO.bind ?_ (fun _ => ?_)
  ·
   intro y0 y1 y2 y3 y4 y5
   unfold darningref4_ByteEdits.j2
   repeat' first
   | (with_reducible exact ih0 _ _ _ _ _ _)
   | (with_reducible exact ih1 _ _ _ _ _ _)
   | (with_reducible exact ih2 _ _ _ _ _ _ _ _ _ _)
   | (with_reducible exact LeO.refl _)
   | (with_reducible exact LeO.none _)
   | (with_reducible refine LeO.ite ?_ ?_)
   | (with_reducible refine LeO.bind ?_ (fun _ => ?_))
   | exact ih0 _ _ _ _ _ _
   | exact ih1 _ _ _ _ _ _
   | exact ih2 _ _ _ _ _ _ _ _ _ _
   | exact LeO.none _
   | refine LeO.ite ?_ ?_
   | refine LeO.bind ?_ (fun _ => ?_)
  ·
   intro y0 y1 y2 y3 y4 y5 y6 y7 y8 y9
   unfold darningref4_ByteEdits.j1
   repeat' first
   | (with_reducible exact ih0 _ _ _ _ _ _)
   | (with_reducible exact ih1 _ _ _ _ _ _)
   | (with_reducible exact ih2 _ _ _ _ _ _ _ _ _ _)
   | (with_reducible exact LeO.refl _)
   | (with_reducible exact LeO.none _)
   | (with_reducible refine LeO.ite ?_ ?_)
   | (with_reducible refine LeO.bind ?_ (fun _ => ?_))
   | exact ih0 _ _ _ _ _ _
   | exact ih1 _ _ _ _ _ _
   | exact ih2 _ _ _ _ _ _ _ _ _ _
   | exact LeO.none _
   | refine LeO.ite ?_ ?_
   | refine LeO.bind ?_ (fun _ => ?_)
theorem darningref4_ByteEdits.mono : ∀ a0 a1 a2 k, LeO (darningref4_ByteEdits.f k a0 a1 a2) (darningref4_ByteEdits.f (k + 1) a0 a1 a2) := by
 intro a0 a1 a2 k
 obtain ⟨ih0, ih1, ih2⟩ := darningref4_ByteEdits.mono_l k
 unfold darningref4_ByteEdits.f
 repeat' first
   | (with_reducible exact ih0 _ _ _ _ _ _)
   | (with_reducible exact ih1 _ _ _ _ _ _)
   | (with_reducible exact ih2 _ _ _ _ _ _ _ _ _ _)
   | (with_reducible exact LeO.refl _)
   | (with_reducible exact LeO.none _)
   | (with_reducible refine LeO.ite ?_ ?_)
   | (with_reducible refine LeO.bind ?_ (fun _ => ?_))
   | exact ih0 _ _ _ _ _ _
   | exact ih1 _ _ _ _ _ _
   | exact ih2 _ _ _ _ _ _ _ _ _ _
   | exact LeO.none _
   | refine LeO.ite ?_ ?_
   | refine LeO.bind ?_ (fun _ => ?_)
set_option maxHeartbeats 8000000 in
set_option maxRecDepth 100000 in
theorem darningref4_ByteEdits.calls (k : Nat) (A0 : Option Addr) (c0 : Nat) (l0 : List Int) (a1 : Int) (A2 : Option Addr) (c2 : Nat) (l2 : List Int) (r1 : List (S30)) (r2 : Bool) (w : World) (hr0 : Kd.C (Kd.int .u64) w A0 l0.length l0) (hc0 : l0.length ≤ c0) (hr2 : Kd.C (Kd.int .u8) w A2 l2.length l2) (hc2 : l2.length ≤ c2) (h : darningref4_ByteEdits.f k l0 a1 l2 = some (r1, r2)) :
  Calls Try.prog 79 #[.slice A0 l0.length c0, .int .i64 a1, .slice A2 l2.length c2] w fun e w' => ∃ v0_ : Value, e = .returned (.tuple #[v0_, .bool r2]) ∧ Kd.R k30 30 w' w.heap.size (fun _ => True) v0_ r1 ∧ Below w.heap.size w w' := by
 have hu30 := Try.underlying30
 have HR0 := Aside0.mk hr0
 have HC0 := Aside0.mk hc0
 clear hr0 hc0
 have HR2 := Aside0.mk hr2
 have HC2 := Aside0.mk hc2
 clear hr2 hc2
 have HB := Aside0.mk (Below.refl w.heap.size w)
 have H : ((darningref4_inside.f (l0.length : Int) a1 (l2.length : Int)).bind fun t471 => (if t471 = true then (darningref4_ByteEdits.l0 k l0 a1 ([] : List (S30)) l2 (l2.length : Int) 0) else (some (([] : List (S30)), false)))) = some (r1, r2) := h
 clear h
 replace H := Option.bind_eq_some_iff.mp H
 obtain ⟨t471, A40, H⟩ := H
 replace H : (if t471 = true then (darningref4_ByteEdits.l0 k l0 a1 ([] : List (S30)) l2 (l2.length : Int) 0) else (some (([] : List (S30)), false))) = some (r1, r2) := H
 have A4 := Aside0.mk A40
 clear A40
 by_cases c5 : t471 = true
 rotate_left
 ·
  replace c5 := Bool.eq_false_iff.mpr c5
  subst c5
  have H1 : (some (([] : List (S30)), false)) = some (r1, r2) := by rw [if_neg (show ¬ (false = true) by decide)] at H; exact H
  clear H
  have H := H1
  clear H1
  simp only [Option.some.injEq, Prod.mk.injEq] at H
  obtain ⟨rfl, rfl⟩ := H
  go_enter Try.func79, Try.ntmps79
  go_wp2_with (first | ((with_reducible refine gate_callee (f := 91) rfl ?_); refine goesL_ (some 20) rfl rfl Try.func91 (by kernel_rfl) rfl #[.int .i64 (l0.length : Int), .int .i64 a1, .int .i64 (l2.length : Int)] rfl (by (try simp only [qj, qk, ql]); first | done | rfl | (simp only [qm, qn]; rfl)) ?_; (with_reducible refine (darningref4_inside.calls (l0.length : Int) a1 (l2.length : Int) false _ A4.out).mono ?_); rintro e w' ⟨rfl, ⟨nd, rfl⟩⟩; refine ⟨_, rfl, ?_⟩))
  go_ret2
  exact ⟨_, by first | rfl | (simp [errW_none, errW_some] <;> rfl) | (simp [*, errW_none, errW_some] <;> rfl), by first | exact Kd.R_nil _ _ _ _ _ | exact Kd.N_nil _ _ _ _ _ | exact Kd.V_nil _ _ _ _ _ | exact Kd.Q_nil _ _ _ _ _ | exact Kd.S_nil _ _ _ _ _, zB HB⟩
 subst c5
 have H1 : (darningref4_ByteEdits.l0 k l0 a1 ([] : List (S30)) l2 (l2.length : Int) 0) = some (r1, r2) := by rw [if_pos rfl] at H; exact H
 clear H
 have H := H1
 clear H1
 have H' := Aside0.mk H
 clear H
 go_enter Try.func79, Try.ntmps79
 go_wp2_with (first | ((with_reducible refine gate_callee (f := 91) rfl ?_); refine goesL_ (some 20) rfl rfl Try.func91 (by kernel_rfl) rfl #[.int .i64 (l0.length : Int), .int .i64 a1, .int .i64 (l2.length : Int)] rfl (by (try simp only [qj, qk, ql]); first | done | rfl | (simp only [qm, qn]; rfl)) ?_; (with_reducible refine (darningref4_inside.calls (l0.length : Int) a1 (l2.length : Int) true _ A4.out).mono ?_); rintro e w' ⟨rfl, ⟨nd, rfl⟩⟩; refine ⟨_, rfl, ?_⟩))
 go_loopg [8, 24] k (fun kq v8 v24 w' => ∃ (x8_1 : List (S30)) (x24_1 : Int), v24 = .int .i64 x24_1 ∧ Aside0 (darningref4_ByteEdits.l0 kq l0 a1 x8_1 l2 (l2.length : Int) x24_1 = some (r1, r2)) ∧ Aside0 (kq ≤ k) ∧ Aside0 (Kd.R k30 30 w' w.heap.size (fun _ => True) v8 x8_1) ∧ Aside0 (Below w.heap.size w w'))
 case atStart => exact ⟨(([] : List (S30))), (0), (by first | rfl | (simp; done) | (simp [*]; done)), H', ⟨Nat.le_refl _⟩, ⟨by first | exact Kd.R_nil _ _ _ _ _ | exact Kd.N_nil _ _ _ _ _ | exact Kd.V_nil _ _ _ _ _ | exact Kd.Q_nil _ _ _ _ _ | exact Kd.S_nil _ _ _ _ _⟩, ⟨zB HB⟩⟩
 case round =>
  clear H'
  try clear c2
  try clear p2
  try clear c5
  obtain ⟨x8_1, x24_1, rfl, HA, HK1, HO_8, HB⟩ := hrel
  cases gk with
  | zero => exact absurd HA.out (by simp [darningref4_ByteEdits.l0])
  | succ k1 =>
   have H := HA.out
   clear HA
   simp only [darningref4_ByteEdits.l0] at H
   by_cases c6 : x24_1 < (l2.length : Int)
   rotate_left
   ·
    rw [if_neg c6] at H
    have c6b0 : decide (x24_1 < (l2.length : Int)) = false := decide_eq_false c6
    clear c6
    simp only [Option.some.injEq, Prod.mk.injEq] at H
    obtain ⟨rfl, rfl⟩ := H
    go_wp2
    go_ret2
    exact ⟨_, by first | rfl | (simp [errW_none, errW_some] <;> rfl) | (simp [*, errW_none, errW_some] <;> rfl), by (with_reducible repeat (first | apply qa | apply qb | apply qc)); exact HO_8.out, zB HB⟩
   rw [if_pos c6] at H
   have c6b0 : decide (x24_1 < (l2.length : Int)) = true := decide_eq_true c6
   clear c6
   have HC7 := Aside0.mk H
   clear H
   go_upto_block 1 with (fail)
   go_cut [8] (fun v8 wc => ∃ (kq : Nat) (x8_6 : List (S30)), Aside0 (darningref4_ByteEdits.j2 kq l0 a1 x8_6 l2 (l2.length : Int) x24_1 = some (r1, r2)) ∧ Aside0 (kq ≤ k1) ∧ Aside0 (Kd.R k30 30 wc w.heap.size (fun _ => True) v8 x8_6) ∧ Aside0 (Below w.heap.size w wc))
   case first =>
    have H := HC7.out
    clear HC7
    by_cases c8 : 0 ≤ x24_1
    rotate_left
    ·
     rw [if_neg c8] at H
     exact absurd H (by simp)
    rw [if_pos c8] at H
    have c8b0 : decide (0 ≤ x24_1) = true := decide_eq_true c8
    clear c8
    (first | rw [c8b0] | (simp only [i64_w, i32_w]; rw [c8b0]) | skip)
    by_cases c9 : x24_1 < (l2.length : Int)
    rotate_left
    ·
     rw [if_neg c9] at H
     exact absurd H (by simp)
    rw [if_pos c9] at H
    have c9b0 : decide (x24_1 < (l2.length : Int)) = true := decide_eq_true c9
    clear c9
    have HC10 := Aside0.mk H
    clear H
    have p472 : 0 ≤ (x24_1 : Int) := zu
    have q472 : x24_1 < (l2.length : Int) := zu
    obtain ⟨ad472, e472, hx472_0⟩ := Kd.at_int HR2.out x24_1 p472 q472
    cases e472
    replace hx472_0 := zw HB hx472_0
    replace p472 := eq_true p472
    replace q472 := eq_true q472
    obtain ⟨Ao11, co11, eo11⟩ := Kd.R_slice HO_8.out
    subst eo11
    go_upto_region 9 with (fail)
    go_cut [52] (fun v52 wc => ∃ (kq : Nat) (x52_9 : Bool), v52 = .bool x52_9 ∧ Aside0 (darningref4_ByteEdits.j1 kq l0 a1 x8_1 (rd l2 x24_1) (wrap64 (Int.tdiv (wrap64 (a1 + x24_1)) 8)) (IntKind.u64.wrap (wrap64 ((Int.tmod (wrap64 (a1 + x24_1)) 8) * 8))) l2 (l2.length : Int) x24_1 x52_9 = some (r1, r2)) ∧ Aside0 (kq ≤ k1) ∧ Aside0 (Kd.R k30 30 wc w.heap.size (fun _ => True) (.slice Ao11 x8_1.length co11) x8_1) ∧ Aside0 (Below w.heap.size w wc))
    case first =>
     have H := HC10.out
     clear HC10
     by_cases c12 : (x8_1.length : Int) = 0
     ·
      rw [if_pos c12] at H
      have c12b0 : ((x8_1.length : Int) == 0) = true := beq_iff_eq.mpr c12
      have c12b1 : ((x8_1.length : Int) != 0) = false := bne_eq_false_iff_eq.mpr c12
      clear c12
      (first | rw [c12b0] | (simp only [i64_w, i32_w]; rw [c12b0]) | skip)
      have H' := Aside0.mk H
      clear H
      go_wp2
      go_meet
      case rel => exact ⟨_, (true), (by first | rfl | (simp; done) | (simp [*]; done)), H', ⟨by have := HK1.out; first | omega | exact Nat.le_refl _⟩, ⟨zr HO_8⟩, ⟨zB HB⟩⟩
     rw [if_neg c12] at H
     have c12b0 : ((x8_1.length : Int) == 0) = false := beq_eq_false_iff_ne.mpr c12
     have c12b1 : ((x8_1.length : Int) != 0) = true := bne_iff_ne.mpr c12
     have c12b2 : ¬ (x8_1 = []) := fun h_ => c12 (by rw [h_]; rfl)
     (first | rw [c12b0] | (simp only [i64_w, i32_w]; rw [c12b0]) | skip)
     obtain ⟨ji13, hji13⟩ : ∃ j_ : Int, (wrap64 ((x8_1.length : Int) - 1)) = j_ := ⟨_, rfl⟩
     replace H : (if 0 ≤ (ji13) then (if (ji13) < (x8_1.length : Int) then (darningref4_ByteEdits.j1 k1 l0 a1 x8_1 (rd l2 x24_1) (wrap64 (Int.tdiv (wrap64 (a1 + x24_1)) 8)) (IntKind.u64.wrap (wrap64 ((Int.tmod (wrap64 (a1 + x24_1)) 8) * 8))) l2 (l2.length : Int) x24_1 (((rd_T30 x8_1 (ji13)).f0) != (wrap64 (Int.tdiv (wrap64 (a1 + x24_1)) 8)))) else (none)) else (none)) = some (r1, r2) := by first | (rw [hji13] at H; exact H) | (simp only [hji13] at H ⊢; exact H)
     have hji13w : (IntKind.i64.wrap ((x8_1.length : Int) - 1)) = ji13 := (i64_w _).trans hji13
     by_cases c14 : 0 ≤ (ji13)
     rotate_left
     ·
      rw [if_neg c14] at H
      exact absurd H (by simp)
     rw [if_pos c14] at H
     have c14b0 : decide (0 ≤ (ji13)) = true := decide_eq_true c14
     clear c14
     by_cases c15 : (ji13) < (x8_1.length : Int)
     rotate_left
     ·
      rw [if_neg c15] at H
      exact absurd H (by simp)
     rw [if_pos c15] at H
     have c15b0 : decide ((ji13) < (x8_1.length : Int)) = true := decide_eq_true c15
     clear c15
     have H' := Aside0.mk H
     clear H
     have p473 : 0 ≤ ((ji13) : Int) := zu
     have q473 : (ji13) < (x8_1.length : Int) := zu
     obtain ⟨ad473, e473, hx473_0, hx473_1⟩ := at_T30 (Kd.R_reads' HO_8.out).2.2 (ji13) p473 q473
     cases e473
     replace p473 := eq_true p473
     replace q473 := eq_true q473
     go_wp2
     go_meet
     case rel => exact ⟨_, ((((rd_T30 x8_1 (ji13)).f0) != (wrap64 (Int.tdiv (wrap64 (a1 + x24_1)) 8)))), (by first | rfl | (simp; done) | (simp only [← hji13] <;> (first | rfl | simp)) | (simp [*]; done)), (by first | exact H' | (simp only [hji13]; exact H')), ⟨by have := HK1.out; first | omega | exact Nat.le_refl _⟩, ⟨zr HO_8⟩, ⟨zB HB⟩⟩
    clear HC10
    try clear c1
    try clear c2
    try clear p2
    try clear p4
    try clear q4
    try clear hx4
    try clear c5
    try clear c6
    try clear c6b0
    try clear p6
    try clear c7
    try clear c8
    try clear c8b0
    try clear c9
    try clear c9b0
    try clear c12
    try clear c12b0
    try clear c12b1
    try clear c12b2
    try clear c14
    try clear c14b0
    try clear c15
    try clear c15b0
    try clear hx472_0
    try clear hx473_0
    try clear hx473_1
    try clear p2
    try clear p472
    try clear p473
    try clear q472
    try clear q473
    obtain ⟨kq, x52_9, rfl, HA, HJ9, HO_8, HB⟩ := hcut
    cases kq with
    | zero => exact absurd HA.out (by simp [darningref4_ByteEdits.j1])
    | succ kj9 =>
     have H := HA.out
     clear HA
     simp only [darningref4_ByteEdits.j1] at H
     by_cases c16 : x52_9 = true
     rotate_left
     ·
      replace c16 := Bool.eq_false_iff.mpr c16
      subst c16
      have H1 : (if 0 ≤ (wrap64 ((x8_1.length : Int) - 1)) then (if (wrap64 ((x8_1.length : Int) - 1)) < (x8_1.length : Int) then (if 0 ≤ (IntKind.u64.wrap (wrap64 ((Int.tmod (wrap64 (a1 + x24_1)) 8) * 8))) then (darningref4_ByteEdits.j2 kj9 l0 a1 (x8_1.set ((wrap64 ((x8_1.length : Int) - 1)) : Int).toNat (⟨(rd_T30 x8_1 (wrap64 ((x8_1.length : Int) - 1))).f0, Go.bits .or .u64 (Go.bits .andNot .u64 ((rd_T30 x8_1 (wrap64 ((x8_1.length : Int) - 1))).f1) (shl .u64 255 (IntKind.u64.wrap (wrap64 ((Int.tmod (wrap64 (a1 + x24_1)) 8) * 8))))) (shl .u64 (IntKind.u64.wrap ((rd l2 x24_1))) (IntKind.u64.wrap (wrap64 ((Int.tmod (wrap64 (a1 + x24_1)) 8) * 8))))⟩ : S30)) l2 (l2.length : Int) x24_1) else (none)) else (none)) else (none)) = some (r1, r2) := by rw [if_neg (show ¬ (false = true) by decide)] at H; exact H
      clear H
      have H := H1
      clear H1
      obtain ⟨ji35, hji35⟩ : ∃ j_ : Int, (wrap64 ((x8_1.length : Int) - 1)) = j_ := ⟨_, rfl⟩
      replace H : (if 0 ≤ (ji35) then (if (ji35) < (x8_1.length : Int) then (if 0 ≤ (IntKind.u64.wrap (wrap64 ((Int.tmod (wrap64 (a1 + x24_1)) 8) * 8))) then (darningref4_ByteEdits.j2 kj9 l0 a1 (x8_1.set ((ji35) : Int).toNat (⟨(rd_T30 x8_1 (ji35)).f0, Go.bits .or .u64 (Go.bits .andNot .u64 ((rd_T30 x8_1 (ji35)).f1) (shl .u64 255 (IntKind.u64.wrap (wrap64 ((Int.tmod (wrap64 (a1 + x24_1)) 8) * 8))))) (shl .u64 (IntKind.u64.wrap ((rd l2 x24_1))) (IntKind.u64.wrap (wrap64 ((Int.tmod (wrap64 (a1 + x24_1)) 8) * 8))))⟩ : S30)) l2 (l2.length : Int) x24_1) else (none)) else (none)) else (none)) = some (r1, r2) := by first | (rw [hji35] at H; exact H) | (simp only [hji35] at H ⊢; exact H)
      have hji35w : (IntKind.i64.wrap ((x8_1.length : Int) - 1)) = ji35 := (i64_w _).trans hji35
      by_cases c36 : 0 ≤ (ji35)
      rotate_left
      ·
       rw [if_neg c36] at H
       exact absurd H (by simp)
      rw [if_pos c36] at H
      have c36b0 : decide (0 ≤ (ji35)) = true := decide_eq_true c36
      clear c36
      by_cases c37 : (ji35) < (x8_1.length : Int)
      rotate_left
      ·
       rw [if_neg c37] at H
       exact absurd H (by simp)
      rw [if_pos c37] at H
      have c37b0 : decide ((ji35) < (x8_1.length : Int)) = true := decide_eq_true c37
      clear c37
      obtain ⟨ji39, hji39⟩ : ∃ j_ : Int, (IntKind.u64.wrap (wrap64 ((Int.tmod (wrap64 (a1 + x24_1)) 8) * 8))) = j_ := ⟨_, rfl⟩
      replace H : (if 0 ≤ (ji39) then (darningref4_ByteEdits.j2 kj9 l0 a1 (x8_1.set ((ji35) : Int).toNat (⟨(rd_T30 x8_1 (ji35)).f0, Go.bits .or .u64 (Go.bits .andNot .u64 ((rd_T30 x8_1 (ji35)).f1) (shl .u64 255 (ji39))) (shl .u64 (IntKind.u64.wrap ((rd l2 x24_1))) (ji39))⟩ : S30)) l2 (l2.length : Int) x24_1) else (none)) = some (r1, r2) := by first | (rw [hji39] at H; exact H) | (simp only [hji39] at H ⊢; exact H)
      by_cases c40 : 0 ≤ (ji39)
      rotate_left
      ·
       rw [if_neg c40] at H
       exact absurd H (by simp)
      rw [if_pos c40] at H
      have c40b0 := eq_true c40
      have c40b1 : decide (0 ≤ (ji39)) = true := decide_eq_true c40
      clear c40
      obtain ⟨ji41, hji41⟩ : ∃ j_ : Int, (shl .u64 255 (ji39)) = j_ := ⟨_, rfl⟩
      replace H : (darningref4_ByteEdits.j2 kj9 l0 a1 (x8_1.set ((ji35) : Int).toNat (⟨(rd_T30 x8_1 (ji35)).f0, Go.bits .or .u64 (Go.bits .andNot .u64 ((rd_T30 x8_1 (ji35)).f1) (ji41)) (shl .u64 (IntKind.u64.wrap ((rd l2 x24_1))) (ji39))⟩ : S30)) l2 (l2.length : Int) x24_1) = some (r1, r2) := by first | (rw [hji41] at H; exact H) | (simp only [hji41] at H ⊢; exact H)
      have hji41_ : (IntKind.u64.wrap (255 * 2 ^ min (ji39).toNat 64)) = ji41 := hji41
      have hji41z : (ji39) ≤ 64 → (IntKind.u64.wrap (255 * 2 ^ (ji39).toNat)) = ji41 := shl_small hji41
      have c42b0 := eq_true (zu : 0 ≤ (ji39))
      obtain ⟨ji43, hji43⟩ : ∃ j_ : Int, (shl .u64 (IntKind.u64.wrap ((rd l2 x24_1))) (ji39)) = j_ := ⟨_, rfl⟩
      replace H : (darningref4_ByteEdits.j2 kj9 l0 a1 (x8_1.set ((ji35) : Int).toNat (⟨(rd_T30 x8_1 (ji35)).f0, Go.bits .or .u64 (Go.bits .andNot .u64 ((rd_T30 x8_1 (ji35)).f1) (ji41)) (ji43)⟩ : S30)) l2 (l2.length : Int) x24_1) = some (r1, r2) := by first | (rw [hji43] at H; exact H) | (simp only [hji43] at H ⊢; exact H)
      have hji43_ : (IntKind.u64.wrap ((IntKind.u64.wrap ((rd l2 x24_1))) * 2 ^ min (ji39).toNat 64)) = ji43 := hji43
      have hji43z : (ji39) ≤ 64 → (IntKind.u64.wrap ((IntKind.u64.wrap ((rd l2 x24_1))) * 2 ^ (ji39).toNat)) = ji43 := shl_small hji43
      obtain ⟨y481, hy481⟩ : ∃ y_ : List (S30), y_ = (x8_1.set ((ji35) : Int).toNat (⟨(rd_T30 x8_1 (ji35)).f0, Go.bits .or .u64 (Go.bits .andNot .u64 ((rd_T30 x8_1 (ji35)).f1) (ji41)) (ji43)⟩ : S30)) := ⟨_, rfl⟩
      replace H : (darningref4_ByteEdits.j2 kj9 l0 a1 y481 l2 (l2.length : Int) x24_1) = some (r1, r2) := by first | (rw [hy481]; with_reducible exact H) | (have H2_ := (Option.bind_some _ _).symm.trans H; rw [hy481]; with_reducible exact H2_) | (have H2_ := (Option.bind_some _ _).symm.trans H; with_reducible exact H2_) | with_reducible exact H | (rw [hy481]; exact H) | exact H
      have Ny481 := Aside0.mk hy481
      clear hy481
      have H' := Aside0.mk H
      clear H
      have p38 : 0 ≤ ((ji35) : Int) := zu
      have q38 : ((ji35) : Int) < ((x8_1.length : Int) : Int) := zu
      obtain ⟨go38, co38, eo38, gb38, gl38, cl38, HG38⟩ := Kd.R_form HO_8.out (by omega)
      (first | cases eo38 | (injection eo38 with ea_ en_ ec_; (first | subst ea_ | (injection ea_ with ea_; subst ea_)); subst ec_; clear en_))
      have GB38 := Aside0.mk gb38
      have GG38 := Aside0.mk HG38
      clear gb38 gl38 HG38
      obtain ⟨ce38, hcl38, hM38, hcc38, hfr38⟩ := Kd.R_elem HO_8.out z30 ((ji35) : Int) p38 q38
      obtain rfl := k30_openM hM38
      have hx38_0 : wc.cell? ⟨go38, ((ji35) : Int).toNat * 2, none⟩ = some (.int .i64 ((rd_T30 x8_1 (ji35)).f0)) := hcc38 0 _ rfl
      have hx38_1 : wc.cell? ⟨go38, ((ji35) : Int).toNat * 2 + 1, none⟩ = some (.int .u64 ((rd_T30 x8_1 (ji35)).f1)) := hcc38 1 _ rfl
      have hf38_0 : wc.frozen? ⟨go38, ((ji35) : Int).toNat * 2, none⟩ = false := hfr38 0
      have hf38_1 : wc.frozen? ⟨go38, ((ji35) : Int).toNat * 2 + 1, none⟩ = false := hfr38 1
      clear hcl38 hcc38 hfr38 hM38
      replace p38 := eq_true p38
      replace q38 := eq_true q38
      have p480 : 0 ≤ ((ji35) : Int) := zu
      have q480 : (ji35) < (x8_1.length : Int) := zu
      obtain ⟨ad480, e480, hx480_0, hx480_1⟩ := at_T30 (Kd.R_reads' HO_8.out).2.2 (ji35) p480 q480
      obtain rfl : (⟨go38, 0, none⟩ : Addr) = ad480 := (by injection e480)
      (first | simp only [add_plain] at hx480_0 | simp only [add_at] at hx480_0 | simp only [Addr.add, Nat.zero_add] at hx480_0 | skip)
      (first | simp only [add_plain] at hx480_1 | simp only [add_at] at hx480_1 | simp only [Addr.add, Nat.zero_add] at hx480_1 | skip)
      replace p480 := eq_true p480
      replace q480 := eq_true q480
      have p44 : 0 ≤ ((ji35) : Int) := zu
      have q44 : ((ji35) : Int) < ((x8_1.length : Int) : Int) := zu
      obtain ⟨ce44, hcl44, hM44, hcc44, hfr44⟩ := Kd.R_elem HO_8.out z30 ((ji35) : Int) p44 q44
      obtain rfl := k30_openM hM44
      have hx44_0 : wc.cell? ⟨go38, ((ji35) : Int).toNat * 2, none⟩ = some (.int .i64 ((rd_T30 x8_1 (ji35)).f0)) := hcc44 0 _ rfl
      have hx44_1 : wc.cell? ⟨go38, ((ji35) : Int).toNat * 2 + 1, none⟩ = some (.int .u64 ((rd_T30 x8_1 (ji35)).f1)) := hcc44 1 _ rfl
      have hf44_0 : wc.frozen? ⟨go38, ((ji35) : Int).toNat * 2, none⟩ = false := hfr44 0
      have hf44_1 : wc.frozen? ⟨go38, ((ji35) : Int).toNat * 2 + 1, none⟩ = false := hfr44 1
      clear hcl44 hcc44 hfr44 hM44
      replace p44 := eq_true p44
      replace q44 := eq_true q44
      have HX45 := Aside0.mk (show Kd.R k30 30 wc w.heap.size (fun _ => True) (.slice (some ⟨go38, 0, none⟩) x8_1.length co11) x8_1 from (zr HO_8))
      obtain ⟨ce45, hcl45, hM45, hcc45, hfr45⟩ := Kd.R_elem HX45.out z30 ((ji35) : Int) (zu) (by have h_ : ((ji35) : Int) < ((x8_1.length : Int) : Int) := zu; first | exact h_ | (have e_ := (Kd.R_reads' HO_8.out).1; omega) | simpa using h_)
      obtain rfl := k30_openM hM45
      have HP45 := Kd.R_seg HX45.out ((ji35) : Int) (zu) (by have h_ : ((ji35) : Int) < ((x8_1.length : Int) : Int) := zu; first | exact h_ | (have e_ := (Kd.R_reads' HO_8.out).1; omega) | simpa using h_) (seg := [.int .u64 (Go.bits .or .u64 (Go.bits .andNot .u64 ((rd_T30 x8_1 (ji35)).f1) (ji41)) (ji43))]) (j := 1) hcl45 hcc45 (show 2 ≤ 2 from by decide) (x' := (⟨(rd_T30 x8_1 (ji35)).f0, Go.bits .or .u64 (Go.bits .andNot .u64 ((rd_T30 x8_1 (ji35)).f1) (ji41)) (ji43)⟩ : S30)) (k30_mkM _ _ _ (⟨(rd_T30 x8_1 (ji35)).f0, Go.bits .or .u64 (Go.bits .andNot .u64 ((rd_T30 x8_1 (ji35)).f1) (ji41)) (ji43)⟩ : S30) ) (fun _ hk => hk)
      have hx45_1 := hcc45 1 _ rfl
      (try simp only [show (k30).sz = 2 from rfl, Nat.mul_one, Nat.add_zero] at hx45_1)
      have hf45_1 := hfr45 1
      (try simp only [show (k30).sz = 2 from rfl, Nat.mul_one, Nat.add_zero] at hf45_1)
      clear hcl45 hcc45 hfr45 hM45
      go_wp2_with (first | ((with_reducible refine gate_store (t := 28) (p := 81) rfl ?_); refine store_event (t := 28) (p := 81) (v := ?vo_w46) (w1 := (wc.setCell ⟨go38, ((ji35) : Int).toNat * 2 + 1, none⟩ (.int .u64 (Go.bits .or .u64 (Go.bits .andNot .u64 ((rd_T30 x8_1 (ji35)).f1) (ji41)) (ji43))))) ?hg ?ho ?hn ?hr ?_; (case ho => rfl); (case hg => rfl); (case hn => rfl); (case hr => first | (go_simp; done) | (go_simp; rfl)); intro w46 hw; have hg : wc.grownBy w46 (some go38) := (by rw [hw]; exact HP45.2); have hp_ : Kd.R k30 30 w46 w.heap.size (fun _ => True) (.slice (some ⟨go38, 0, none⟩) x8_1.length co11) y481 := (by rw [hw, Ny481.out]; exact HP45.1); clear HP45; have n0_ := Aside0.mk (hp_); have n1_ := Aside0.mk ((by rw [hw]; exact below_set (HB.out) GB38.out : Below w.heap.size w w46)); replace HO_8 := n0_; replace HB := n1_; clear n0_ n1_; clear hg hw hp_))
      go_meet
      case rel => exact ⟨_, (y481), (by first | exact H' | ((try rw [hji13]); (try rw [hji17]); (try rw [hji21]); (try rw [hji25]); (try rw [hji27]); (try rw [hji29]); (try rw [hji35]); (try rw [hji39]); (try rw [hji41]); (try rw [hji43]); exact H')), ⟨by have := HK1.out; have := HJ9.out; first | omega | exact Nat.le_refl _⟩, ⟨zr HO_8⟩, ⟨zB HB⟩⟩
     subst c16
     have H1 : (if 0 ≤ (wrap64 (Int.tdiv (wrap64 (a1 + x24_1)) 8)) then (if (wrap64 (Int.tdiv (wrap64 (a1 + x24_1)) 8)) < (l0.length : Int) then (if x8_1.length < 8796093022208 then ((some (x8_1 ++ [(⟨(wrap64 (Int.tdiv (wrap64 (a1 + x24_1)) 8)), rd l0 (wrap64 (Int.tdiv (wrap64 (a1 + x24_1)) 8))⟩ : S30)] : List (S30))).bind fun y475 => (if 0 ≤ (wrap64 ((y475.length : Int) - 1)) then (if (wrap64 ((y475.length : Int) - 1)) < (y475.length : Int) then (if 0 ≤ (IntKind.u64.wrap (wrap64 ((Int.tmod (wrap64 (a1 + x24_1)) 8) * 8))) then (darningref4_ByteEdits.j2 kj9 l0 a1 (y475.set ((wrap64 ((y475.length : Int) - 1)) : Int).toNat (⟨(rd_T30 y475 (wrap64 ((y475.length : Int) - 1))).f0, Go.bits .or .u64 (Go.bits .andNot .u64 ((rd_T30 y475 (wrap64 ((y475.length : Int) - 1))).f1) (shl .u64 255 (IntKind.u64.wrap (wrap64 ((Int.tmod (wrap64 (a1 + x24_1)) 8) * 8))))) (shl .u64 (IntKind.u64.wrap ((rd l2 x24_1))) (IntKind.u64.wrap (wrap64 ((Int.tmod (wrap64 (a1 + x24_1)) 8) * 8))))⟩ : S30)) l2 (l2.length : Int) x24_1) else (none)) else (none)) else (none))) else (none)) else (none)) else (none)) = some (r1, r2) := by rw [if_pos rfl] at H; exact H
     clear H
     have H := H1
     clear H1
     obtain ⟨ji17, hji17⟩ : ∃ j_ : Int, (wrap64 (Int.tdiv (wrap64 (a1 + x24_1)) 8)) = j_ := ⟨_, rfl⟩
     replace H : (if 0 ≤ (ji17) then (if (ji17) < (l0.length : Int) then (if x8_1.length < 8796093022208 then ((some (x8_1 ++ [(⟨(ji17), rd l0 (ji17)⟩ : S30)] : List (S30))).bind fun y475 => (if 0 ≤ (wrap64 ((y475.length : Int) - 1)) then (if (wrap64 ((y475.length : Int) - 1)) < (y475.length : Int) then (if 0 ≤ (IntKind.u64.wrap (wrap64 ((Int.tmod (wrap64 (a1 + x24_1)) 8) * 8))) then (darningref4_ByteEdits.j2 kj9 l0 a1 (y475.set ((wrap64 ((y475.length : Int) - 1)) : Int).toNat (⟨(rd_T30 y475 (wrap64 ((y475.length : Int) - 1))).f0, Go.bits .or .u64 (Go.bits .andNot .u64 ((rd_T30 y475 (wrap64 ((y475.length : Int) - 1))).f1) (shl .u64 255 (IntKind.u64.wrap (wrap64 ((Int.tmod (wrap64 (a1 + x24_1)) 8) * 8))))) (shl .u64 (IntKind.u64.wrap ((rd l2 x24_1))) (IntKind.u64.wrap (wrap64 ((Int.tmod (wrap64 (a1 + x24_1)) 8) * 8))))⟩ : S30)) l2 (l2.length : Int) x24_1) else (none)) else (none)) else (none))) else (none)) else (none)) else (none)) = some (r1, r2) := by first | (rw [hji17] at H; exact H) | (simp only [hji17] at H ⊢; exact H)
     have hji17w : (IntKind.i64.wrap (Int.tdiv (wrap64 (a1 + x24_1)) 8)) = ji17 := (i64_w _).trans hji17
     by_cases c18 : 0 ≤ (ji17)
     rotate_left
     ·
      rw [if_neg c18] at H
      exact absurd H (by simp)
     rw [if_pos c18] at H
     have c18b0 : decide (0 ≤ (ji17)) = true := decide_eq_true c18
     clear c18
     by_cases c19 : (ji17) < (l0.length : Int)
     rotate_left
     ·
      rw [if_neg c19] at H
      exact absurd H (by simp)
     rw [if_pos c19] at H
     have c19b0 : decide ((ji17) < (l0.length : Int)) = true := decide_eq_true c19
     clear c19
     by_cases c20 : x8_1.length < 8796093022208
     rotate_left
     ·
      rw [if_neg c20] at H
      exact absurd H (by simp)
     rw [if_pos c20] at H
     have LMc20 := Aside0.mk c20
     clear c20
     obtain ⟨y475, hy475⟩ : ∃ y_ : List (S30), y_ = (x8_1 ++ [(⟨(ji17), rd l0 (ji17)⟩ : S30)]) := ⟨_, rfl⟩
     replace H : (if 0 ≤ (wrap64 ((y475.length : Int) - 1)) then (if (wrap64 ((y475.length : Int) - 1)) < (y475.length : Int) then (if 0 ≤ (IntKind.u64.wrap (wrap64 ((Int.tmod (wrap64 (a1 + x24_1)) 8) * 8))) then (darningref4_ByteEdits.j2 kj9 l0 a1 (y475.set ((wrap64 ((y475.length : Int) - 1)) : Int).toNat (⟨(rd_T30 y475 (wrap64 ((y475.length : Int) - 1))).f0, Go.bits .or .u64 (Go.bits .andNot .u64 ((rd_T30 y475 (wrap64 ((y475.length : Int) - 1))).f1) (shl .u64 255 (IntKind.u64.wrap (wrap64 ((Int.tmod (wrap64 (a1 + x24_1)) 8) * 8))))) (shl .u64 (IntKind.u64.wrap ((rd l2 x24_1))) (IntKind.u64.wrap (wrap64 ((Int.tmod (wrap64 (a1 + x24_1)) 8) * 8))))⟩ : S30)) l2 (l2.length : Int) x24_1) else (none)) else (none)) else (none)) = some (r1, r2) := by first | (rw [hy475]; with_reducible exact H) | (have H2_ := (Option.bind_some _ _).symm.trans H; rw [hy475]; with_reducible exact H2_) | (have H2_ := (Option.bind_some _ _).symm.trans H; with_reducible exact H2_) | with_reducible exact H | (rw [hy475]; exact H) | exact H
     have Ny475 := Aside0.mk hy475
     clear hy475
     obtain ⟨ji21, hji21⟩ : ∃ j_ : Int, (wrap64 ((y475.length : Int) - 1)) = j_ := ⟨_, rfl⟩
     replace H : (if 0 ≤ (ji21) then (if (ji21) < (y475.length : Int) then (if 0 ≤ (IntKind.u64.wrap (wrap64 ((Int.tmod (wrap64 (a1 + x24_1)) 8) * 8))) then (darningref4_ByteEdits.j2 kj9 l0 a1 (y475.set ((ji21) : Int).toNat (⟨(rd_T30 y475 (ji21)).f0, Go.bits .or .u64 (Go.bits .andNot .u64 ((rd_T30 y475 (ji21)).f1) (shl .u64 255 (IntKind.u64.wrap (wrap64 ((Int.tmod (wrap64 (a1 + x24_1)) 8) * 8))))) (shl .u64 (IntKind.u64.wrap ((rd l2 x24_1))) (IntKind.u64.wrap (wrap64 ((Int.tmod (wrap64 (a1 + x24_1)) 8) * 8))))⟩ : S30)) l2 (l2.length : Int) x24_1) else (none)) else (none)) else (none)) = some (r1, r2) := by first | (rw [hji21] at H; exact H) | (simp only [hji21] at H ⊢; exact H)
     have hji21w : (IntKind.i64.wrap ((y475.length : Int) - 1)) = ji21 := (i64_w _).trans hji21
     by_cases c22 : 0 ≤ (ji21)
     rotate_left
     ·
      rw [if_neg c22] at H
      exact absurd H (by simp)
     rw [if_pos c22] at H
     have c22b0 : decide (0 ≤ (ji21)) = true := decide_eq_true c22
     clear c22
     by_cases c23 : (ji21) < (y475.length : Int)
     rotate_left
     ·
      rw [if_neg c23] at H
      exact absurd H (by simp)
     rw [if_pos c23] at H
     have c23b0 : decide ((ji21) < (y475.length : Int)) = true := decide_eq_true c23
     clear c23
     obtain ⟨ji25, hji25⟩ : ∃ j_ : Int, (IntKind.u64.wrap (wrap64 ((Int.tmod (wrap64 (a1 + x24_1)) 8) * 8))) = j_ := ⟨_, rfl⟩
     replace H : (if 0 ≤ (ji25) then (darningref4_ByteEdits.j2 kj9 l0 a1 (y475.set ((ji21) : Int).toNat (⟨(rd_T30 y475 (ji21)).f0, Go.bits .or .u64 (Go.bits .andNot .u64 ((rd_T30 y475 (ji21)).f1) (shl .u64 255 (ji25))) (shl .u64 (IntKind.u64.wrap ((rd l2 x24_1))) (ji25))⟩ : S30)) l2 (l2.length : Int) x24_1) else (none)) = some (r1, r2) := by first | (rw [hji25] at H; exact H) | (simp only [hji25] at H ⊢; exact H)
     by_cases c26 : 0 ≤ (ji25)
     rotate_left
     ·
      rw [if_neg c26] at H
      exact absurd H (by simp)
     rw [if_pos c26] at H
     have c26b0 := eq_true c26
     have c26b1 : decide (0 ≤ (ji25)) = true := decide_eq_true c26
     clear c26
     obtain ⟨ji27, hji27⟩ : ∃ j_ : Int, (shl .u64 255 (ji25)) = j_ := ⟨_, rfl⟩
     replace H : (darningref4_ByteEdits.j2 kj9 l0 a1 (y475.set ((ji21) : Int).toNat (⟨(rd_T30 y475 (ji21)).f0, Go.bits .or .u64 (Go.bits .andNot .u64 ((rd_T30 y475 (ji21)).f1) (ji27)) (shl .u64 (IntKind.u64.wrap ((rd l2 x24_1))) (ji25))⟩ : S30)) l2 (l2.length : Int) x24_1) = some (r1, r2) := by first | (rw [hji27] at H; exact H) | (simp only [hji27] at H ⊢; exact H)
     have hji27_ : (IntKind.u64.wrap (255 * 2 ^ min (ji25).toNat 64)) = ji27 := hji27
     have hji27z : (ji25) ≤ 64 → (IntKind.u64.wrap (255 * 2 ^ (ji25).toNat)) = ji27 := shl_small hji27
     have c28b0 := eq_true (zu : 0 ≤ (ji25))
     obtain ⟨ji29, hji29⟩ : ∃ j_ : Int, (shl .u64 (IntKind.u64.wrap ((rd l2 x24_1))) (ji25)) = j_ := ⟨_, rfl⟩
     replace H : (darningref4_ByteEdits.j2 kj9 l0 a1 (y475.set ((ji21) : Int).toNat (⟨(rd_T30 y475 (ji21)).f0, Go.bits .or .u64 (Go.bits .andNot .u64 ((rd_T30 y475 (ji21)).f1) (ji27)) (ji29)⟩ : S30)) l2 (l2.length : Int) x24_1) = some (r1, r2) := by first | (rw [hji29] at H; exact H) | (simp only [hji29] at H ⊢; exact H)
     have hji29_ : (IntKind.u64.wrap ((IntKind.u64.wrap ((rd l2 x24_1))) * 2 ^ min (ji25).toNat 64)) = ji29 := hji29
     have hji29z : (ji25) ≤ 64 → (IntKind.u64.wrap ((IntKind.u64.wrap ((rd l2 x24_1))) * 2 ^ (ji25).toNat)) = ji29 := shl_small hji29
     obtain ⟨y479, hy479⟩ : ∃ y_ : List (S30), y_ = (y475.set ((ji21) : Int).toNat (⟨(rd_T30 y475 (ji21)).f0, Go.bits .or .u64 (Go.bits .andNot .u64 ((rd_T30 y475 (ji21)).f1) (ji27)) (ji29)⟩ : S30)) := ⟨_, rfl⟩
     replace H : (darningref4_ByteEdits.j2 kj9 l0 a1 y479 l2 (l2.length : Int) x24_1) = some (r1, r2) := by first | (rw [hy479]; with_reducible exact H) | (have H2_ := (Option.bind_some _ _).symm.trans H; rw [hy479]; with_reducible exact H2_) | (have H2_ := (Option.bind_some _ _).symm.trans H; with_reducible exact H2_) | with_reducible exact H | (rw [hy479]; exact H) | exact H
     have Ny479 := Aside0.mk hy479
     clear hy479
     have H' := Aside0.mk H
     clear H
     have p474 : 0 ≤ ((ji17) : Int) := zu
     have q474 : (ji17) < (l0.length : Int) := zu
     obtain ⟨ad474, e474, hx474_0⟩ := Kd.at_int HR0.out (ji17) p474 q474
     cases e474
     replace hx474_0 := zw HB hx474_0
     replace p474 := eq_true p474
     replace q474 := eq_true q474
     go_wp2_with (first | ((with_reducible refine gate_builtin (b := .append) (xs := #[.tmp 53, .tmp 60]) rfl ?_); at_builtin; refine Kd.R_append k30 (w0 := w) w.heap.size rfl (.tmp 53) (.tmp 60) 42 30 (.agg #[(.int .i64 0), (.int .u64 0)]) 16 rfl Try.underlying42 info30 rfl (by decide) (by omega) (.slice Ao11 x8_1.length co11) x8_1 (⟨(ji17), rd l0 (ji17)⟩ : S30) [.int .i64 (ji17), .int .u64 (rd l0 (ji17))] (fun _ => True) (fun _ => False) rfl rfl ?aP (fun _ hk => hk.elim) ?aF ?aO ?aB ?aS ?aL ?_; (case aP => exact k30_mkM _ _ _ (⟨(ji17), rd l0 (ji17)⟩ : S30)); (case aB => exact (zB HB)); (case aF => exact (fun _ _ => trivial)); (case aO => exact (zr HO_8)); (case aS => exact (below_size (zB HB))); (case aL => have := LMc20.out; omega); intro v476 w31 ho hb hg hat; rw [← Ny475.out] at ho; have n0_ := Aside0.mk (hb); have n1_ := Aside0.mk (ho); clear HB; clear HO_8; have HB := n0_; have HO477 := n1_; clear n0_ n1_; clear ho hb hg hat; obtain ⟨Ao32, co32, eo32⟩ := Kd.R_slice HO477.out; subst eo32; have p24 : 0 ≤ ((ji21) : Int) := zu; have q24 : ((ji21) : Int) < ((y475.length : Int) : Int) := zu; obtain ⟨go24, co24, eo24, gb24, gl24, cl24, HG24⟩ := Kd.R_form HO477.out (by omega); (first | cases eo24 | (injection eo24 with ea_ en_ ec_; (first | subst ea_ | (injection ea_ with ea_; subst ea_)); subst ec_; clear en_)); have GB24 := Aside0.mk gb24; have GG24 := Aside0.mk HG24; clear gb24 gl24 HG24; obtain ⟨ce24, hcl24, hM24, hcc24, hfr24⟩ := Kd.R_elem HO477.out z30 ((ji21) : Int) p24 q24; obtain rfl := k30_openM hM24; have hx24_0 : w31.cell? ⟨go24, ((ji21) : Int).toNat * 2, none⟩ = some (.int .i64 ((rd_T30 y475 (ji21)).f0)) := hcc24 0 _ rfl; have hx24_1 : w31.cell? ⟨go24, ((ji21) : Int).toNat * 2 + 1, none⟩ = some (.int .u64 ((rd_T30 y475 (ji21)).f1)) := hcc24 1 _ rfl; have hf24_0 : w31.frozen? ⟨go24, ((ji21) : Int).toNat * 2, none⟩ = false := hfr24 0; have hf24_1 : w31.frozen? ⟨go24, ((ji21) : Int).toNat * 2 + 1, none⟩ = false := hfr24 1; clear hcl24 hcc24 hfr24 hM24; replace p24 := eq_true p24; replace q24 := eq_true q24; have p478 : 0 ≤ ((ji21) : Int) := zu; have q478 : (ji21) < (y475.length : Int) := zu; obtain ⟨ad478, e478, hx478_0, hx478_1⟩ := at_T30 (Kd.R_reads' HO477.out).2.2 (ji21) p478 q478; obtain rfl : (⟨go24, 0, none⟩ : Addr) = ad478 := (by injection e478); (first | simp only [add_plain] at hx478_0 | simp only [add_at] at hx478_0 | simp only [Addr.add, Nat.zero_add] at hx478_0 | skip); (first | simp only [add_plain] at hx478_1 | simp only [add_at] at hx478_1 | simp only [Addr.add, Nat.zero_add] at hx478_1 | skip); replace p478 := eq_true p478; replace q478 := eq_true q478; have p30 : 0 ≤ ((ji21) : Int) := zu; have q30 : ((ji21) : Int) < ((y475.length : Int) : Int) := zu; obtain ⟨ce30, hcl30, hM30, hcc30, hfr30⟩ := Kd.R_elem HO477.out z30 ((ji21) : Int) p30 q30; obtain rfl := k30_openM hM30; have hx30_0 : w31.cell? ⟨go24, ((ji21) : Int).toNat * 2, none⟩ = some (.int .i64 ((rd_T30 y475 (ji21)).f0)) := hcc30 0 _ rfl; have hx30_1 : w31.cell? ⟨go24, ((ji21) : Int).toNat * 2 + 1, none⟩ = some (.int .u64 ((rd_T30 y475 (ji21)).f1)) := hcc30 1 _ rfl; have hf30_0 : w31.frozen? ⟨go24, ((ji21) : Int).toNat * 2, none⟩ = false := hfr30 0; have hf30_1 : w31.frozen? ⟨go24, ((ji21) : Int).toNat * 2 + 1, none⟩ = false := hfr30 1; clear hcl30 hcc30 hfr30 hM30; replace p30 := eq_true p30; replace q30 := eq_true q30; have HX33 := Aside0.mk (show Kd.R k30 30 w31 w.heap.size (fun _ => True) (.slice (some ⟨go24, 0, none⟩) y475.length co32) y475 from (zr HO477)); obtain ⟨ce33, hcl33, hM33, hcc33, hfr33⟩ := Kd.R_elem HX33.out z30 ((ji21) : Int) (zu) (by have h_ : ((ji21) : Int) < ((y475.length : Int) : Int) := zu; first | exact h_ | (have e_ := (Kd.R_reads' HO477.out).1; omega) | simpa using h_); obtain rfl := k30_openM hM33; have HP33 := Kd.R_seg HX33.out ((ji21) : Int) (zu) (by have h_ : ((ji21) : Int) < ((y475.length : Int) : Int) := zu; first | exact h_ | (have e_ := (Kd.R_reads' HO477.out).1; omega) | simpa using h_) (seg := [.int .u64 (Go.bits .or .u64 (Go.bits .andNot .u64 ((rd_T30 y475 (ji21)).f1) (ji27)) (ji29))]) (j := 1) hcl33 hcc33 (show 2 ≤ 2 from by decide) (x' := (⟨(rd_T30 y475 (ji21)).f0, Go.bits .or .u64 (Go.bits .andNot .u64 ((rd_T30 y475 (ji21)).f1) (ji27)) (ji29)⟩ : S30)) (k30_mkM _ _ _ (⟨(rd_T30 y475 (ji21)).f0, Go.bits .or .u64 (Go.bits .andNot .u64 ((rd_T30 y475 (ji21)).f1) (ji27)) (ji29)⟩ : S30) ) (fun _ hk => hk); have hx33_1 := hcc33 1 _ rfl; (try simp only [show (k30).sz = 2 from rfl, Nat.mul_one, Nat.add_zero] at hx33_1); have hf33_1 := hfr33 1; (try simp only [show (k30).sz = 2 from rfl, Nat.mul_one, Nat.add_zero] at hf33_1); clear hcl33 hcc33 hfr33 hM33) | ((with_reducible refine gate_store (t := 28) (p := 81) rfl ?_); refine store_event (t := 28) (p := 81) (v := ?vo_w34) (w1 := (w31.setCell ⟨go24, ((ji21) : Int).toNat * 2 + 1, none⟩ (.int .u64 (Go.bits .or .u64 (Go.bits .andNot .u64 ((rd_T30 y475 (ji21)).f1) (ji27)) (ji29))))) ?hg ?ho ?hn ?hr ?_; (case ho => rfl); (case hg => rfl); (case hn => rfl); (case hr => first | (go_simp; done) | (go_simp; rfl)); intro w34 hw; have hg : w31.grownBy w34 (some go24) := (by rw [hw]; exact HP33.2); have hp_ : Kd.R k30 30 w34 w.heap.size (fun _ => True) (.slice (some ⟨go24, 0, none⟩) y475.length co32) y479 := (by rw [hw, Ny479.out]; exact HP33.1); clear HP33; have n0_ := Aside0.mk (hp_); have n1_ := Aside0.mk ((by rw [hw]; exact below_set (HB.out) GB24.out : Below w.heap.size w w34)); replace HO477 := n0_; replace HB := n1_; clear n0_ n1_; clear hg hw hp_))
     go_meet
     case rel => exact ⟨_, (y479), (by first | exact H' | ((try rw [hji13]); (try rw [hji17]); (try rw [hji21]); (try rw [hji25]); (try rw [hji27]); (try rw [hji29]); exact H')), ⟨by have := HK1.out; have := HJ9.out; first | omega | exact Nat.le_refl _⟩, ⟨zr HO477⟩, ⟨zB HB⟩⟩
   clear HC7
   try clear c1
   try clear c2
   try clear p2
   try clear q2
   try clear hx2
   try clear c3
   try clear p3
   try clear q3
   try clear hx3
   try clear hf3
   try clear c4
   try clear p4
   try clear q4
   try clear hx4
   try clear hf4
   try clear c5
   try clear c6
   try clear c6b0
   try clear p6
   try clear c7
   try clear c8
   try clear c8b0
   try clear c9
   try clear c9b0
   try clear c12
   try clear c12b0
   try clear c12b1
   try clear c12b2
   try clear c14
   try clear c14b0
   try clear c15
   try clear c15b0
   try clear c16
   try clear c18
   try clear c18b0
   try clear c19
   try clear c19b0
   try clear c20
   try clear c22
   try clear c22b0
   try clear c23
   try clear c23b0
   try clear c24
   try clear p24
   try clear q24
   try clear hx24
   try clear hf24
   try clear c26
   try clear c26b0
   try clear c26b1
   try clear c28
   try clear c28b0
   try clear c30
   try clear p30
   try clear q30
   try clear hx30
   try clear hf30
   try clear c33
   try clear hx33
   try clear hf33
   try clear c36
   try clear c36b0
   try clear c37
   try clear c37b0
   try clear c38
   try clear p38
   try clear q38
   try clear hx38
   try clear hf38
   try clear c40
   try clear c40b0
   try clear c40b1
   try clear c42
   try clear c42b0
   try clear c44
   try clear p44
   try clear q44
   try clear hx44
   try clear hf44
   try clear c45
   try clear hx45
   try clear hf45
   try clear hx24_0
   try clear hx24_1
   try clear hx30_0
   try clear hx30_1
   try clear hx33_1
   try clear hx38_0
   try clear hx38_1
   try clear hx44_0
   try clear hx44_1
   try clear hx45_1
   try clear hx472_0
   try clear hx473_0
   try clear hx473_1
   try clear hx474_0
   try clear hx478_0
   try clear hx478_1
   try clear hx480_0
   try clear hx480_1
   try clear p2
   try clear p24
   try clear p30
   try clear p38
   try clear p4
   try clear p44
   try clear p472
   try clear p473
   try clear p474
   try clear p478
   try clear p480
   try clear p6
   try clear q24
   try clear q30
   try clear q38
   try clear q4
   try clear q44
   try clear q472
   try clear q473
   try clear q474
   try clear q478
   try clear q480
   obtain ⟨kq, x8_6, HA, HJ6, HO_8, HB⟩ := hcut
   cases kq with
   | zero => exact absurd HA.out (by simp [darningref4_ByteEdits.j2])
   | succ kj6 =>
    have H := HA.out
    clear HA
    simp only [darningref4_ByteEdits.j2] at H
    have H' := Aside0.mk H
    clear H
    go_wp2
    go_roundg kj6
    case measure => have := HK1.out; have := HJ6.out; omega
    case rel => exact ⟨(x8_6), (wrap64 (x24_1 + 1)), (by first | rfl | (simp; done) | (simp [*]; done)), (by first | exact H' | ((try rw [hji13]); (try rw [hji17]); (try rw [hji21]); (try rw [hji25]); (try rw [hji27]); (try rw [hji29]); (try rw [hji35]); (try rw [hji39]); (try rw [hji41]); (try rw [hji43]); exact H')), ⟨by have := HK1.out; have := HJ6.out; omega⟩, ⟨zr HO_8⟩, ⟨zB HB⟩⟩

/-! ### darningref4_ImageWrite: function 51 -/
def darningref4_ImageWrite.f (k : Nat) (l0 : List Int) (a1 : Int) (l2 : List Int) : Option ((List (S30)) × Int) := (darningref4_Blocks.f k l0).bind fun bt482 => (if bt482.2 = true then ((darningref4_Within.f k bt482.1 a1 (l2.length : Int)).bind fun t486 => (if t486 = true then ((darningref4_ByteEdits.f k l0 a1 l2).bind fun bt487 => (some (bt487.1, 0))) else (some (([] : List (S30)), 1)))) else (some (([] : List (S30)), 6)))
theorem darningref4_ImageWrite.mono : ∀ a0 a1 a2 k, LeO (darningref4_ImageWrite.f k a0 a1 a2) (darningref4_ImageWrite.f (k + 1) a0 a1 a2) := by
 intro a0 a1 a2 k
 unfold darningref4_ImageWrite.f
 repeat' first
   | (with_reducible exact darningref4_Blocks.mono _ _)
   | (with_reducible exact darningref4_ByteEdits.mono _ _ _ _)
   | (with_reducible exact darningref4_Within.mono _ _ _ _)
   | (with_reducible exact LeO.refl _)
   | (with_reducible exact LeO.none _)
   | (with_reducible refine LeO.ite ?_ ?_)
   | (with_reducible refine LeO.bind ?_ (fun _ => ?_))
   | exact darningref4_Blocks.mono _ _
   | exact darningref4_ByteEdits.mono _ _ _ _
   | exact darningref4_Within.mono _ _ _ _
   | exact LeO.none _
   | refine LeO.ite ?_ ?_
   | refine LeO.bind ?_ (fun _ => ?_)
set_option maxHeartbeats 8000000 in
set_option maxRecDepth 100000 in
theorem darningref4_ImageWrite.calls (k : Nat) (A0 : Option Addr) (c0 : Nat) (l0 : List Int) (a1 : Int) (A2 : Option Addr) (c2 : Nat) (l2 : List Int) (r1 : List (S30)) (r2 : Int) (w : World) (hr0 : Kd.C (Kd.int .u64) w A0 l0.length l0) (hc0 : l0.length ≤ c0) (hr2 : Kd.C (Kd.int .u8) w A2 l2.length l2) (hc2 : l2.length ≤ c2) (h : darningref4_ImageWrite.f k l0 a1 l2 = some (r1, r2)) :
  Calls Try.prog 51 #[.slice A0 l0.length c0, .int .i64 a1, .slice A2 l2.length c2] w fun e w' => ∃ v0_ : Value, e = .returned (.tuple #[v0_, .int .i64 r2]) ∧ Kd.R k30 30 w' w.heap.size (fun _ => True) v0_ r1 ∧ Below w.heap.size w w' := by
 have HR0 := Aside0.mk hr0
 have HC0 := Aside0.mk hc0
 clear hr0 hc0
 have HR2 := Aside0.mk hr2
 have HC2 := Aside0.mk hc2
 clear hr2 hc2
 have HB := Aside0.mk (Below.refl w.heap.size w)
 have H : ((darningref4_Blocks.f k l0).bind fun bt482 => (if bt482.2 = true then ((darningref4_Within.f k bt482.1 a1 (l2.length : Int)).bind fun t486 => (if t486 = true then ((darningref4_ByteEdits.f k l0 a1 l2).bind fun bt487 => (some (bt487.1, 0))) else (some (([] : List (S30)), 1)))) else (some (([] : List (S30)), 6)))) = some (r1, r2) := h
 clear h
 replace H := Option.bind_eq_some_iff.mp H
 obtain ⟨⟨t482, t483⟩, A40, H⟩ := H
 replace H : (if t483 = true then ((darningref4_Within.f k t482 a1 (l2.length : Int)).bind fun t486 => (if t486 = true then ((darningref4_ByteEdits.f k l0 a1 l2).bind fun bt487 => (some (bt487.1, 0))) else (some (([] : List (S30)), 1)))) else (some (([] : List (S30)), 6))) = some (r1, r2) := H
 have A4 := Aside0.mk A40
 clear A40
 by_cases c5 : t483 = true
 rotate_left
 ·
  replace c5 := Bool.eq_false_iff.mpr c5
  subst c5
  have H1 : (some (([] : List (S30)), 6)) = some (r1, r2) := by rw [if_neg (show ¬ (false = true) by decide)] at H; exact H
  clear H
  have H := H1
  clear H1
  simp only [Option.some.injEq, Prod.mk.injEq] at H
  obtain ⟨rfl, rfl⟩ := H
  go_enter Try.func51, Try.ntmps51
  go_wp2_with (first | ((with_reducible refine gate_callee (f := 52) rfl ?_); refine goesL_ (some 14) rfl rfl Try.func52 (by kernel_rfl) rfl #[.slice A0 l0.length c0] rfl (by (try simp only [qj, qk, ql]); first | done | rfl | (simp only [qm, qn]; rfl)) ?_; (with_reducible refine (darningref4_Blocks.calls k _ _ l0 t482 false _ ?side1 ?side2 A4.out).mono ?_); (case side1 => exact zc HR0.out); (case side2 => exact HC0.out); rintro e w16 ⟨v484, rfl, ho0, hb⟩; refine ⟨_, rfl, ?_⟩; have n0_ := Aside0.mk (Kd.R_lower ho0 (below_size (zB HB))); have n1_ := zb HB hb; clear HB; have HO485 := n0_; have HB := n1_; clear n0_ n1_; (try clear hb); (try clear ho0)))
  go_ret2
  exact ⟨_, by first | rfl | (simp [errW_none, errW_some] <;> rfl) | (simp [*, errW_none, errW_some] <;> rfl), by first | exact Kd.R_nil _ _ _ _ _ | exact Kd.N_nil _ _ _ _ _ | exact Kd.V_nil _ _ _ _ _ | exact Kd.Q_nil _ _ _ _ _ | exact Kd.S_nil _ _ _ _ _, zB HB⟩
 subst c5
 have H1 : ((darningref4_Within.f k t482 a1 (l2.length : Int)).bind fun t486 => (if t486 = true then ((darningref4_ByteEdits.f k l0 a1 l2).bind fun bt487 => (some (bt487.1, 0))) else (some (([] : List (S30)), 1)))) = some (r1, r2) := by rw [if_pos rfl] at H; exact H
 clear H
 have H := H1
 clear H1
 replace H := Option.bind_eq_some_iff.mp H
 obtain ⟨t486, A60, H⟩ := H
 replace H : (if t486 = true then ((darningref4_ByteEdits.f k l0 a1 l2).bind fun bt487 => (some (bt487.1, 0))) else (some (([] : List (S30)), 1))) = some (r1, r2) := H
 have A6 := Aside0.mk A60
 clear A60
 by_cases c7 : t486 = true
 rotate_left
 ·
  replace c7 := Bool.eq_false_iff.mpr c7
  subst c7
  have H1 : (some (([] : List (S30)), 1)) = some (r1, r2) := by rw [if_neg (show ¬ (false = true) by decide)] at H; exact H
  clear H
  have H := H1
  clear H1
  simp only [Option.some.injEq, Prod.mk.injEq] at H
  obtain ⟨rfl, rfl⟩ := H
  go_enter Try.func51, Try.ntmps51
  go_wp2_with (first | ((with_reducible refine gate_callee (f := 52) rfl ?_); refine goesL_ (some 14) rfl rfl Try.func52 (by kernel_rfl) rfl #[.slice A0 l0.length c0] rfl (by (try simp only [qj, qk, ql]); first | done | rfl | (simp only [qm, qn]; rfl)) ?_; (with_reducible refine (darningref4_Blocks.calls k _ _ l0 t482 true _ ?side1 ?side2 A4.out).mono ?_); (case side1 => exact zc HR0.out); (case side2 => exact HC0.out); rintro e w13 ⟨v484, rfl, ho0, hb⟩; refine ⟨_, rfl, ?_⟩; have n0_ := Aside0.mk (Kd.R_lower ho0 (below_size (zB HB))); have n1_ := zb HB hb; clear HB; have HO485 := n0_; have HB := n1_; clear n0_ n1_; (try clear hb); (try clear ho0); obtain ⟨Ao14, co14, eo14⟩ := Kd.R_slice HO485.out; subst eo14) | ((with_reducible refine gate_callee (f := 54) rfl ?_); refine goesL_ (some 23) rfl rfl Try.func54 (by kernel_rfl) rfl #[.slice Ao14 t482.length co14, .int .i64 a1, .int .i64 (l2.length : Int)] rfl (by (try simp only [qj, qk, ql]); first | done | rfl | (simp only [qm, qn]; rfl)) ?_; (with_reducible refine (darningref4_Within.calls k _ _ t482 a1 (l2.length : Int) false _ ?side1 ?side2 A6.out).mono ?_); (case side1 => exact zc (Kd.R_reads' HO485.out).2.2); (case side2 => exact (Kd.R_reads' HO485.out).2.1); rintro e w15 ⟨rfl, hb⟩; refine ⟨_, rfl, ?_⟩; have n0_ := za HO485 hb; have n1_ := zb HB hb; replace HO485 := n0_; replace HB := n1_; clear n0_ n1_; (try clear hb)))
  go_ret2
  exact ⟨_, by first | rfl | (simp [errW_none, errW_some] <;> rfl) | (simp [*, errW_none, errW_some] <;> rfl), by first | exact Kd.R_nil _ _ _ _ _ | exact Kd.N_nil _ _ _ _ _ | exact Kd.V_nil _ _ _ _ _ | exact Kd.Q_nil _ _ _ _ _ | exact Kd.S_nil _ _ _ _ _, zB HB⟩
 subst c7
 have H1 : ((darningref4_ByteEdits.f k l0 a1 l2).bind fun bt487 => (some (bt487.1, 0))) = some (r1, r2) := by rw [if_pos rfl] at H; exact H
 clear H
 have H := H1
 clear H1
 replace H := Option.bind_eq_some_iff.mp H
 obtain ⟨⟨t487, t488⟩, A80, H⟩ := H
 replace H : (some (t487, 0)) = some (r1, r2) := H
 have A8 := Aside0.mk A80
 clear A80
 simp only [Option.some.injEq, Prod.mk.injEq] at H
 obtain ⟨rfl, rfl⟩ := H
 go_enter Try.func51, Try.ntmps51
 go_wp2_with (first | ((with_reducible refine gate_callee (f := 52) rfl ?_); refine goesL_ (some 14) rfl rfl Try.func52 (by kernel_rfl) rfl #[.slice A0 l0.length c0] rfl (by (try simp only [qj, qk, ql]); first | done | rfl | (simp only [qm, qn]; rfl)) ?_; (with_reducible refine (darningref4_Blocks.calls k _ _ l0 t482 true _ ?side1 ?side2 A4.out).mono ?_); (case side1 => exact zc HR0.out); (case side2 => exact HC0.out); rintro e w9 ⟨v484, rfl, ho0, hb⟩; refine ⟨_, rfl, ?_⟩; have n0_ := Aside0.mk (Kd.R_lower ho0 (below_size (zB HB))); have n1_ := zb HB hb; clear HB; have HO485 := n0_; have HB := n1_; clear n0_ n1_; (try clear hb); (try clear ho0); obtain ⟨Ao10, co10, eo10⟩ := Kd.R_slice HO485.out; subst eo10) | ((with_reducible refine gate_callee (f := 54) rfl ?_); refine goesL_ (some 23) rfl rfl Try.func54 (by kernel_rfl) rfl #[.slice Ao10 t482.length co10, .int .i64 a1, .int .i64 (l2.length : Int)] rfl (by (try simp only [qj, qk, ql]); first | done | rfl | (simp only [qm, qn]; rfl)) ?_; (with_reducible refine (darningref4_Within.calls k _ _ t482 a1 (l2.length : Int) true _ ?side1 ?side2 A6.out).mono ?_); (case side1 => exact zc (Kd.R_reads' HO485.out).2.2); (case side2 => exact (Kd.R_reads' HO485.out).2.1); rintro e w11 ⟨rfl, hb⟩; refine ⟨_, rfl, ?_⟩; have n0_ := za HO485 hb; have n1_ := zb HB hb; replace HO485 := n0_; replace HB := n1_; clear n0_ n1_; (try clear hb)) | ((with_reducible refine gate_callee (f := 79) rfl ?_); refine goesL_ (some 29) rfl rfl Try.func79 (by kernel_rfl) rfl #[.slice A0 l0.length c0, .int .i64 a1, .slice A2 l2.length c2] rfl (by (try simp only [qj, qk, ql]); first | done | rfl | (simp only [qm, qn]; rfl)) ?_; (with_reducible refine (darningref4_ByteEdits.calls k _ _ l0 a1 _ _ l2 t487 t488 _ ?side1 ?side2 ?side3 ?side4 A8.out).mono ?_); (case side1 => exact zc (Kd.C_below HR0.out HB.out)); (case side2 => exact HC0.out); (case side3 => exact zc (Kd.C_below HR2.out HB.out)); (case side4 => exact HC2.out); rintro e w12 ⟨v489, rfl, ho0, hb⟩; refine ⟨_, rfl, ?_⟩; have n0_ := za HO485 hb; have n1_ := Aside0.mk (Kd.R_lower ho0 (below_size (zB HB))); have n2_ := zb HB hb; clear HO485; clear HB; have HO485 := n0_; have HO490 := n1_; have HB := n2_; clear n0_ n1_ n2_; (try clear hb); (try clear ho0)))
 go_ret2
 exact ⟨_, by first | rfl | (simp [errW_none, errW_some] <;> rfl) | (simp [*, errW_none, errW_some] <;> rfl), by (with_reducible repeat (first | apply qa | apply qb | apply qc)); exact HO490.out, zB HB⟩

end Go.Proofs.Ytglekonhdjploaa.XImageForms
