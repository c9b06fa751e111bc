-- Laid by this session's own printer (wip/xprint.py): each Go function that the law reaches as a plain Lean function, and that the call comes to it.
import Derived.Test.YtglekonhdjploaaXImageKeepsx0
import Derived.Test.YtglekonhdjploaaXImageKeepsx7
namespace Go.Proofs.Ytglekonhdjploaa.XImageKeeps
open Go.RowKit Go.Proofs.YtglekonhdjploaaW.PrintWords Go.Proofs.YtglekonhdjploaaW.PrintLast Go.Proofs.YtglekonhdjploaaW.PrintMore
attribute [local go_sem] max2_int min2_int max_two min_two max_three min_three max_four min_four   -- for this text's walks alone
set_option linter.unusedVariables false
set_option linter.unusedSimpArgs false

/-! ### span_Edits: function 78 -/
mutual
def span_Edits.l0 : Nat → List Int → Int → List (S30) → List Int → Int → Int → Option ((List (S30)) × Bool)
 | 0, _, _, _, _, _, _ => none
 | k + 1, x0, x1, x8, x19, x20, x21 => if x21 < x20 then (if 0 ≤ x21 then (if x21 < (x19.length : Int) then (if (x8.length : Int) = 0 then (span_Edits.j1 k x0 x1 x8 (rd x19 x21) (wrap64 (x1 + x21)) x19 x20 x21 true) else (if 0 ≤ (wrap64 ((x8.length : Int) - 1)) then (if (wrap64 ((x8.length : Int) - 1)) < (x8.length : Int) then (span_Edits.j1 k x0 x1 x8 (rd x19 x21) (wrap64 (x1 + x21)) x19 x20 x21 (((rd_T30 x8 (wrap64 ((x8.length : Int) - 1))).f0) != (wrap64 (Int.tdiv (wrap64 (x1 + x21)) 8)))) else (none)) else (none))) else (none)) else (none)) else (some (x8, true))
def span_Edits.j2 : Nat → List Int → Int → List (S30) → List Int → Int → Int → Option ((List (S30)) × Bool)
 | 0, _, _, _, _, _, _ => none
 | k + 1, x0, x1, x8, x19, x20, x21 => span_Edits.l0 k x0 x1 x8 x19 x20 (wrap64 (x21 + 1))
def span_Edits.j1 : Nat → List Int → Int → List (S30) → Int → Int → List Int → Int → Int → Bool → Option ((List (S30)) × Bool)
 | 0, _, _, _, _, _, _, _, _, _ => none
 | k + 1, x0, x1, x8, x10, x11, x19, x20, x21, x43 => if x43 = true then (if 0 ≤ (wrap64 (Int.tdiv x11 8)) then (if (wrap64 (Int.tdiv x11 8)) < (x0.length : Int) then (if x8.length < 8796093022208 then ((some (x8 ++ [(⟨wrap64 (Int.tdiv x11 8), rd x0 (wrap64 (Int.tdiv x11 8))⟩ : S30)] : List (S30))).bind fun y217 => (if 0 ≤ (wrap64 ((y217.length : Int) - 1)) then (if (wrap64 ((y217.length : Int) - 1)) < (y217.length : Int) then (if 0 ≤ (wrap64 ((Int.tmod x11 8) * 8)) then (span_Edits.j2 k x0 x1 (y217.set ((wrap64 ((y217.length : Int) - 1)) : Int).toNat (⟨(rd_T30 y217 (wrap64 ((y217.length : Int) - 1))).f0, Go.bits .or .u64 (Go.bits .andNot .u64 ((rd_T30 y217 (wrap64 ((y217.length : Int) - 1))).f1) (shl .u64 255 (wrap64 ((Int.tmod x11 8) * 8)))) (shl .u64 (IntKind.u64.wrap (x10)) (wrap64 ((Int.tmod x11 8) * 8)))⟩ : S30)) x19 x20 x21) else (none)) else (none)) else (none))) else (none)) else (none)) else (none)) else (if 0 ≤ (wrap64 ((x8.length : Int) - 1)) then (if (wrap64 ((x8.length : Int) - 1)) < (x8.length : Int) then (if 0 ≤ (wrap64 ((Int.tmod x11 8) * 8)) then (span_Edits.j2 k x0 x1 (x8.set ((wrap64 ((x8.length : Int) - 1)) : Int).toNat (⟨(rd_T30 x8 (wrap64 ((x8.length : Int) - 1))).f0, Go.bits .or .u64 (Go.bits .andNot .u64 ((rd_T30 x8 (wrap64 ((x8.length : Int) - 1))).f1) (shl .u64 255 (wrap64 ((Int.tmod x11 8) * 8)))) (shl .u64 (IntKind.u64.wrap (x10)) (wrap64 ((Int.tmod x11 8) * 8)))⟩ : S30)) x19 x20 x21) else (none)) else (none)) else (none))
end
def span_Edits.f (k : Nat) (l0 : List Int) (a1 : Int) (l2 : List Int) : Option ((List (S30)) × Bool) := (span_within.f l0 a1 (l2.length : Int)).bind fun t213 => (if t213 = true then (span_Edits.l0 k l0 a1 ([] : List (S30)) l2 (l2.length : Int) 0) else (some (([] : List (S30)), false)))
theorem span_Edits.mono_l : ∀ k, (∀ y0 y1 y2 y3 y4 y5, LeO (span_Edits.l0 k y0 y1 y2 y3 y4 y5) (span_Edits.l0 (k + 1) y0 y1 y2 y3 y4 y5)) ∧ (∀ y0 y1 y2 y3 y4 y5, LeO (span_Edits.j2 k y0 y1 y2 y3 y4 y5) (span_Edits.j2 (k + 1) y0 y1 y2 y3 y4 y5)) ∧ (∀ y0 y1 y2 y3 y4 y5 y6 y7 y8, LeO (span_Edits.j1 k y0 y1 y2 y3 y4 y5 y6 y7 y8) (span_Edits.j1 (k + 1) y0 y1 y2 y3 y4 y5 y6 y7 y8))
 | 0 => ⟨fun _ _ _ _ _ _ r h => by simp [span_Edits.l0] at h, fun _ _ _ _ _ _ r h => by simp [span_Edits.j2] at h, fun _ _ _ _ _ _ _ _ _ r h => by simp [span_Edits.j1] at h⟩
 | k + 1 => by
  obtain ⟨ih0, ih1, ih2⟩ := span_Edits.mono_l k
  refine ⟨?_, ?_, ?_⟩
  ·
   intro y0 y1 y2 y3 y4 y5
   unfold span_Edits.l0
   repeat' first
   | (with_reducible exact ih0 _ _ _ _ _ _)
   | (with_reducible exact ih1 _ _ _ _ _ _)
   | (with_reducible exact ih2 _ _ _ _ _ _ _ _ _)
   | (with_reducible exact LeO.refl _)
   | (with_reducible exact LeO.none _)
   | (with_reducible refine LeO.ite ?_ ?_)
   | (with_reducible refine LeO.bind ?_ (fun _ => ?_))
   | exact ih0 _ _ _ _ _ _
   | exact ih1 _ _ _ _ _ _
   | exact ih2 _ _ _ _ _ _ _ _ _
   | exact LeO.none _
   | refine LeO.ite ?_ ?_
   | refine LeO.bind ?_ (fun _ => ?_)
  ·
   intro y0 y1 y2 y3 y4 y5
   unfold span_Edits.j2
   repeat' first
   | (with_reducible exact ih0 _ _ _ _ _ _)
   | (with_reducible exact ih1 _ _ _ _ _ _)
   | (with_reducible exact ih2 _ _ _ _ _ _ _ _ _)
   | (with_reducible exact LeO.refl _)
   | (with_reducible exact LeO.none _)
   | (with_reducible refine LeO.ite ?_ ?_)
   | (with_reducible refine LeO.bind ?_ (fun _ => ?_))
   | exact ih0 _ _ _ _ _ _
   | exact ih1 _ _ _ _ _ _
   | exact ih2 _ _ _ _ _ _ _ _ _
   | exact LeO.none _
   | refine LeO.ite ?_ ?_
   | refine LeO.bind ?_ (fun _ => ?_)
  ·
   intro y0 y1 y2 y3 y4 y5 y6 y7 y8
   unfold span_Edits.j1
   repeat' first
   | (with_reducible exact ih0 _ _ _ _ _ _)
   | (with_reducible exact ih1 _ _ _ _ _ _)
   | (with_reducible exact ih2 _ _ _ _ _ _ _ _ _)
   | (with_reducible exact LeO.refl _)
   | (with_reducible exact LeO.none _)
   | (with_reducible refine LeO.ite ?_ ?_)
   | (with_reducible refine LeO.bind ?_ (fun _ => ?_))
   | exact ih0 _ _ _ _ _ _
   | exact ih1 _ _ _ _ _ _
   | exact ih2 _ _ _ _ _ _ _ _ _
   | exact LeO.none _
   | refine LeO.ite ?_ ?_
   | refine LeO.bind ?_ (fun _ => ?_)
theorem span_Edits.mono : ∀ a0 a1 a2 k, LeO (span_Edits.f k a0 a1 a2) (span_Edits.f (k + 1) a0 a1 a2) := by
 intro a0 a1 a2 k
 obtain ⟨ih0, ih1, ih2⟩ := span_Edits.mono_l k
 unfold span_Edits.f
 repeat' first
   | (with_reducible exact ih0 _ _ _ _ _ _)
   | (with_reducible exact ih1 _ _ _ _ _ _)
   | (with_reducible exact ih2 _ _ _ _ _ _ _ _ _)
   | (with_reducible exact LeO.refl _)
   | (with_reducible exact LeO.none _)
   | (with_reducible refine LeO.ite ?_ ?_)
   | (with_reducible refine LeO.bind ?_ (fun _ => ?_))
   | exact ih0 _ _ _ _ _ _
   | exact ih1 _ _ _ _ _ _
   | exact ih2 _ _ _ _ _ _ _ _ _
   | exact LeO.none _
   | refine LeO.ite ?_ ?_
   | refine LeO.bind ?_ (fun _ => ?_)
def span_Edits.T11 : Bool × List (List Nat × List Nat) := (true, [([], []), ([], []), ([1], [1]), ([2], [2]), ([3], [3]), ([], []), ([5], [5]), ([6], [6]), ([7], [7]), ([4, 8], [4, 8]), ([], []), ([10], [10]), ([], []), ([12], [12]), ([13], [13]), ([11, 14], [11, 14]), ([9, 15], [9, 15]), ([0, 0, 1, 2, 3, 4, 5, 6, 7, 8, 9, 10, 11, 12, 13, 14, 15, 16], [0]), ([17, 0, 1, 2, 3, 4, 5, 6, 7, 8, 9, 10, 11, 12, 13, 14, 15, 16], [17]), ([18, 16, 0, 1, 2, 3, 4, 5, 6, 7, 8, 9, 10, 11, 12, 13, 14, 15, 16], [16, 18])])
def span_Edits.B11 : List Nat := [0, 0, 2, 6, 14, 0, 32, 96, 224, 510, 0, 1024, 0, 4096, 12288, 31744, 65534, 131071, 262143, 524287]
theorem span_Edits.tab11 : rtab .any (opsOf Try.f78 11) = span_Edits.T11 := by kernel_rfl
theorem span_Edits.bits11 : waitsOk span_Edits.T11.2 span_Edits.B11 = true := by kernel_rfl
set_option maxHeartbeats 8000000 in
set_option maxRecDepth 100000 in
theorem span_Edits.calls (k : Nat) (A0 : Option Addr) (c0 : Nat) (l0 : List Int) (a1 : Int) (A2 : Option Addr) (c2 : Nat) (l2 : List Int) (r1 : List (S30)) (r2 : Bool) (w : World) (hr0 : Kd.C (Kd.int .u64) w A0 l0.length l0) (hc0 : l0.length ≤ c0) (hr2 : Kd.C (Kd.int .u8) w A2 l2.length l2) (hc2 : l2.length ≤ c2) (h : span_Edits.f k l0 a1 l2 = some (r1, r2)) :
  Calls Try.prog 78 #[.slice A0 l0.length c0, .int .i64 a1, .slice A2 l2.length c2] w fun e w' => ∃ v0_ : Value, e = .returned (.tuple #[v0_, .bool r2]) ∧ Kd.R k30 30 w' w.heap.size (fun _ => True) v0_ r1 ∧ Below w.heap.size w w' := by
 have hu30 := Try.underlying30
 have HR0 := Aside0.mk hr0
 have HC0 := Aside0.mk hc0
 clear hr0 hc0
 have HR2 := Aside0.mk hr2
 have HC2 := Aside0.mk hc2
 clear hr2 hc2
 have HB := Aside0.mk (Below.refl w.heap.size w)
 have H : ((span_within.f l0 a1 (l2.length : Int)).bind fun t213 => (if t213 = true then (span_Edits.l0 k l0 a1 ([] : List (S30)) l2 (l2.length : Int) 0) else (some (([] : List (S30)), false)))) = some (r1, r2) := h
 clear h
 replace H := Option.bind_eq_some_iff.mp H
 obtain ⟨t213, A40, H⟩ := H
 replace H : (if t213 = true then (span_Edits.l0 k l0 a1 ([] : List (S30)) l2 (l2.length : Int) 0) else (some (([] : List (S30)), false))) = some (r1, r2) := H
 have A4 := Aside0.mk A40
 clear A40
 by_cases c5 : t213 = true
 rotate_left
 ·
  replace c5 := Bool.eq_false_iff.mpr c5
  subst c5
  have H1 : (some (([] : List (S30)), false)) = some (r1, r2) := by rw [if_neg (show ¬ (false = true) by decide)] at H; exact H
  clear H
  have H := H1
  clear H1
  simp only [Option.some.injEq, Prod.mk.injEq] at H
  obtain ⟨rfl, rfl⟩ := H
  go_enter Try.func78, Try.ntmps78
  go_wp2_with (first | ((with_reducible refine gate_callee (f := 90) rfl ?_); refine goesL_ (some 17) rfl rfl Try.func90 (by kernel_rfl) rfl #[.slice A0 l0.length c0, .int .i64 a1, .int .i64 (l2.length : Int)] rfl (by (try simp only [List.map_toArray, List.map_cons, List.map_nil]); first | done | rfl | (simp only [List.length_drop, List.length_take]; rfl)) ?_; (with_reducible refine (span_within.calls _ _ l0 a1 (l2.length : Int) false _ ?side1 ?side2 A4.out).mono ?_); (case side1 => repeat (first | exact HR0.out | (with_reducible refine Kd.C_alloc ?_ _) | (with_reducible refine Kd.C_drewN ?_ _) | (with_reducible refine Kd.C_drew ?_))); (case side2 => exact HC0.out); rintro e w' ⟨rfl, ⟨nd, rfl⟩⟩; refine ⟨_, rfl, ?_⟩))
  go_ret2
  exact ⟨_, by first | rfl | (simp [errW_none, errW_some] <;> rfl) | (simp [*, errW_none, errW_some] <;> rfl), by first | exact Kd.R_nil _ _ _ _ _ | exact Kd.N_nil _ _ _ _ _ | exact Kd.V_nil _ _ _ _ _ | exact Kd.Q_nil _ _ _ _ _ | exact Kd.S_nil _ _ _ _ _, by repeat (first | (with_reducible first | exact HB.out | apply below_alloc | apply pw_below_drewN | apply below_drew1) | exact HB.out)⟩
 subst c5
 have H1 : (span_Edits.l0 k l0 a1 ([] : List (S30)) l2 (l2.length : Int) 0) = some (r1, r2) := by rw [if_pos rfl] at H; exact H
 clear H
 have H := H1
 clear H1
 have H' := Aside0.mk H
 clear H
 go_enter Try.func78, Try.ntmps78
 go_wp2_with (first | ((with_reducible refine gate_callee (f := 90) rfl ?_); refine goesL_ (some 17) rfl rfl Try.func90 (by kernel_rfl) rfl #[.slice A0 l0.length c0, .int .i64 a1, .int .i64 (l2.length : Int)] rfl (by (try simp only [List.map_toArray, List.map_cons, List.map_nil]); first | done | rfl | (simp only [List.length_drop, List.length_take]; rfl)) ?_; (with_reducible refine (span_within.calls _ _ l0 a1 (l2.length : Int) true _ ?side1 ?side2 A4.out).mono ?_); (case side1 => repeat (first | exact HR0.out | (with_reducible refine Kd.C_alloc ?_ _) | (with_reducible refine Kd.C_drewN ?_ _) | (with_reducible refine Kd.C_drew ?_))); (case side2 => exact HC0.out); rintro e w' ⟨rfl, ⟨nd, rfl⟩⟩; refine ⟨_, rfl, ?_⟩))
 go_loopg [8, 21] k (fun kq v8 v21 w' => ∃ (x8_1 : List (S30)) (x21_1 : Int), v21 = .int .i64 x21_1 ∧ Aside0 (span_Edits.l0 kq l0 a1 x8_1 l2 (l2.length : Int) x21_1 = some (r1, r2)) ∧ Aside0 (kq ≤ k) ∧ Aside0 (Kd.R k30 30 w' w.heap.size (fun _ => True) v8 x8_1) ∧ Aside0 (Below w.heap.size w w'))
 case atStart => exact ⟨(([] : List (S30))), (0), (by first | rfl | (simp; done) | (simp [*]; done)), H', ⟨Nat.le_refl _⟩, ⟨by first | exact Kd.R_nil _ _ _ _ _ | exact Kd.N_nil _ _ _ _ _ | exact Kd.V_nil _ _ _ _ _ | exact Kd.Q_nil _ _ _ _ _ | exact Kd.S_nil _ _ _ _ _⟩, ⟨by repeat (first | (with_reducible first | exact HB.out | apply below_alloc | apply pw_below_drewN | apply below_drew1) | exact HB.out)⟩⟩
 case round =>
  clear H'
  try clear c2
  try clear p2
  try clear c5
  obtain ⟨x8_1, x21_1, rfl, HA, HK1, HO_8, HB⟩ := hrel
  cases gk with
  | zero => exact absurd HA.out (by simp [span_Edits.l0])
  | succ k1 =>
   have H := HA.out
   clear HA
   simp only [span_Edits.l0] at H
   by_cases c6 : x21_1 < (l2.length : Int)
   rotate_left
   ·
    rw [if_neg c6] at H
    have c6b0 : decide (x21_1 < (l2.length : Int)) = false := decide_eq_false c6
    clear c6
    simp only [Option.some.injEq, Prod.mk.injEq] at H
    obtain ⟨rfl, rfl⟩ := H
    go_wp2
    go_ret2
    exact ⟨_, by first | rfl | (simp [errW_none, errW_some] <;> rfl) | (simp [*, errW_none, errW_some] <;> rfl), by (with_reducible repeat (first | apply Kd.R_alloc | apply Kd.R_drewN | apply Kd.R_drew)); exact HO_8.out, by repeat (first | (with_reducible first | exact HB.out | apply below_alloc | apply pw_below_drewN | apply below_drew1) | exact HB.out)⟩
   rw [if_pos c6] at H
   have c6b0 : decide (x21_1 < (l2.length : Int)) = true := decide_eq_true c6
   clear c6
   have HC7 := Aside0.mk H
   clear H
   go_upto_block 1 with (fail)
   go_cut [8] (fun v8 wc => ∃ (kq : Nat) (x8_6 : List (S30)), Aside0 (span_Edits.j2 kq l0 a1 x8_6 l2 (l2.length : Int) x21_1 = some (r1, r2)) ∧ Aside0 (kq ≤ k1) ∧ Aside0 (Kd.R k30 30 wc w.heap.size (fun _ => True) v8 x8_6) ∧ Aside0 (Below w.heap.size w wc))
   case first =>
    have H := HC7.out
    clear HC7
    by_cases c8 : 0 ≤ x21_1
    rotate_left
    ·
     rw [if_neg c8] at H
     exact absurd H (by simp)
    rw [if_pos c8] at H
    have c8b0 : decide (0 ≤ x21_1) = true := decide_eq_true c8
    clear c8
    (first | rw [c8b0] | (simp only [i64_w, i32_w]; rw [c8b0]) | skip)
    by_cases c9 : x21_1 < (l2.length : Int)
    rotate_left
    ·
     rw [if_neg c9] at H
     exact absurd H (by simp)
    rw [if_pos c9] at H
    have c9b0 : decide (x21_1 < (l2.length : Int)) = true := decide_eq_true c9
    clear c9
    have HC10 := Aside0.mk H
    clear H
    have p214 : 0 ≤ (x21_1 : Int) := of_decide_eq_true (by first | (with_reducible assumption) | assumption)
    have q214 : x21_1 < (l2.length : Int) := of_decide_eq_true (by first | (with_reducible assumption) | assumption)
    obtain ⟨ad214, e214, hx214_0⟩ := Kd.at_int HR2.out x21_1 p214 q214
    cases e214
    replace hx214_0 := (HB.out.cell (World.block_lt_of_cell? w _ hx214_0)).trans hx214_0
    replace p214 := eq_true p214
    replace q214 := eq_true q214
    go_upto_region 8 with (fail)
    go_cut [43] (fun v43 wc => ∃ (kq : Nat) (x43_9 : Bool), v43 = .bool x43_9 ∧ Aside0 (span_Edits.j1 kq l0 a1 x8_1 (rd l2 x21_1) (wrap64 (a1 + x21_1)) l2 (l2.length : Int) x21_1 x43_9 = some (r1, r2)) ∧ Aside0 (kq ≤ k1) ∧ Aside0 (Kd.R k30 30 wc w.heap.size (fun _ => True) u8 x8_1) ∧ Aside0 (Below w.heap.size w wc))
    case first =>
     have H := HC10.out
     clear HC10
     by_cases c11 : (x8_1.length : Int) = 0
     ·
      rw [if_pos c11] at H
      have c11b0 : ((x8_1.length : Int) == 0) = true := beq_iff_eq.mpr c11
      have c11b1 : ((x8_1.length : Int) != 0) = false := bne_eq_false_iff_eq.mpr c11
      clear c11
      (first | rw [c11b0] | (simp only [i64_w, i32_w]; rw [c11b0]) | skip)
      have H' := Aside0.mk H
      clear H
      obtain ⟨Ao12, co12, eo12⟩ := Kd.R_slice HO_8.out
      subst eo12
      go_wp2
      go_meet
      case rel => exact ⟨_, (true), (by first | rfl | (simp; done) | (simp [*]; done)), H', ⟨by have := HK1.out; first | omega | exact Nat.le_refl _⟩, ⟨by (with_reducible repeat (first | apply Kd.R_alloc | apply Kd.R_drewN | apply Kd.R_drew)); exact HO_8.out⟩, ⟨by repeat (first | (with_reducible first | exact HB.out | apply below_alloc | apply pw_below_drewN | apply below_drew1) | exact HB.out)⟩⟩
     rw [if_neg c11] at H
     have c11b0 : ((x8_1.length : Int) == 0) = false := beq_eq_false_iff_ne.mpr c11
     have c11b1 : ((x8_1.length : Int) != 0) = true := bne_iff_ne.mpr c11
     have c11b2 : ¬ (x8_1 = []) := fun h_ => c11 (by rw [h_]; rfl)
     (first | rw [c11b0] | (simp only [i64_w, i32_w]; rw [c11b0]) | skip)
     obtain ⟨ji13, hji13⟩ : ∃ j_ : Int, (wrap64 ((x8_1.length : Int) - 1)) = j_ := ⟨_, rfl⟩
     replace H : (if 0 ≤ (ji13) then (if (ji13) < (x8_1.length : Int) then (span_Edits.j1 k1 l0 a1 x8_1 (rd l2 x21_1) (wrap64 (a1 + x21_1)) l2 (l2.length : Int) x21_1 (((rd_T30 x8_1 (ji13)).f0) != (wrap64 (Int.tdiv (wrap64 (a1 + x21_1)) 8)))) else (none)) else (none)) = some (r1, r2) := by first | (rw [hji13] at H; exact H) | (simp only [hji13] at H ⊢; exact H)
     have hji13w : (IntKind.i64.wrap ((x8_1.length : Int) - 1)) = ji13 := (i64_w _).trans hji13
     by_cases c14 : 0 ≤ (ji13)
     rotate_left
     ·
      rw [if_neg c14] at H
      exact absurd H (by simp)
     rw [if_pos c14] at H
     have c14b0 : decide (0 ≤ (ji13)) = true := decide_eq_true c14
     clear c14
     by_cases c15 : (ji13) < (x8_1.length : Int)
     rotate_left
     ·
      rw [if_neg c15] at H
      exact absurd H (by simp)
     rw [if_pos c15] at H
     have c15b0 : decide ((ji13) < (x8_1.length : Int)) = true := decide_eq_true c15
     clear c15
     have H' := Aside0.mk H
     clear H
     obtain ⟨Ao16, co16, eo16⟩ := Kd.R_slice HO_8.out
     subst eo16
     have p215 : 0 ≤ ((ji13) : Int) := of_decide_eq_true (by first | (with_reducible assumption) | assumption)
     have q215 : (ji13) < (x8_1.length : Int) := of_decide_eq_true (by first | (with_reducible assumption) | assumption)
     obtain ⟨ad215, e215, hx215_0, hx215_1⟩ := at_T30 (Kd.R_reads' HO_8.out).2.2 (ji13) p215 q215
     cases e215
     replace p215 := eq_true p215
     replace q215 := eq_true q215
     go_wp2
     go_meet
     case rel => exact ⟨_, ((((rd_T30 x8_1 (ji13)).f0) != (wrap64 (Int.tdiv (wrap64 (a1 + x21_1)) 8)))), (by first | rfl | (simp; done) | (simp only [← hji13] <;> (first | rfl | simp)) | (simp [*]; done)), (by first | exact H' | (simp only [hji13]; exact H')), ⟨by have := HK1.out; first | omega | exact Nat.le_refl _⟩, ⟨by (with_reducible repeat (first | apply Kd.R_alloc | apply Kd.R_drewN | apply Kd.R_drew)); exact HO_8.out⟩, ⟨by repeat (first | (with_reducible first | exact HB.out | apply below_alloc | apply pw_below_drewN | apply below_drew1) | exact HB.out)⟩⟩
    clear HC10
    try clear c1
    try clear c2
    try clear p2
    try clear q2
    try clear hx2
    try clear c5
    try clear c6
    try clear c6b0
    try clear p6
    try clear c7
    try clear c8
    try clear c8b0
    try clear c9
    try clear c9b0
    try clear c11
    try clear c11b0
    try clear c11b1
    try clear c11b2
    try clear c14
    try clear c14b0
    try clear c15
    try clear c15b0
    try clear hx214_0
    try clear hx215_0
    try clear hx215_1
    try clear p2
    try clear p214
    try clear p215
    try clear q214
    try clear q215
    obtain ⟨kq, x43_9, rfl, HA, HJ9, HO_8, HB⟩ := hcut
    cases kq with
    | zero => exact absurd HA.out (by simp [span_Edits.j1])
    | succ kj9 =>
     have H := HA.out
     clear HA
     simp only [span_Edits.j1] at H
     by_cases c17 : x43_9 = true
     rotate_left
     ·
      replace c17 := Bool.eq_false_iff.mpr c17
      subst c17
      have H1 : (if 0 ≤ (wrap64 ((x8_1.length : Int) - 1)) then (if (wrap64 ((x8_1.length : Int) - 1)) < (x8_1.length : Int) then (if 0 ≤ (wrap64 ((Int.tmod (wrap64 (a1 + x21_1)) 8) * 8)) then (span_Edits.j2 kj9 l0 a1 (x8_1.set ((wrap64 ((x8_1.length : Int) - 1)) : Int).toNat (⟨(rd_T30 x8_1 (wrap64 ((x8_1.length : Int) - 1))).f0, Go.bits .or .u64 (Go.bits .andNot .u64 ((rd_T30 x8_1 (wrap64 ((x8_1.length : Int) - 1))).f1) (shl .u64 255 (wrap64 ((Int.tmod (wrap64 (a1 + x21_1)) 8) * 8)))) (shl .u64 (IntKind.u64.wrap ((rd l2 x21_1))) (wrap64 ((Int.tmod (wrap64 (a1 + x21_1)) 8) * 8)))⟩ : S30)) l2 (l2.length : Int) x21_1) else (none)) else (none)) else (none)) = some (r1, r2) := by rw [if_neg (show ¬ (false = true) by decide)] at H; exact H
      clear H
      have H := H1
      clear H1
      obtain ⟨ji36, hji36⟩ : ∃ j_ : Int, (wrap64 ((x8_1.length : Int) - 1)) = j_ := ⟨_, rfl⟩
      replace H : (if 0 ≤ (ji36) then (if (ji36) < (x8_1.length : Int) then (if 0 ≤ (wrap64 ((Int.tmod (wrap64 (a1 + x21_1)) 8) * 8)) then (span_Edits.j2 kj9 l0 a1 (x8_1.set ((ji36) : Int).toNat (⟨(rd_T30 x8_1 (ji36)).f0, Go.bits .or .u64 (Go.bits .andNot .u64 ((rd_T30 x8_1 (ji36)).f1) (shl .u64 255 (wrap64 ((Int.tmod (wrap64 (a1 + x21_1)) 8) * 8)))) (shl .u64 (IntKind.u64.wrap ((rd l2 x21_1))) (wrap64 ((Int.tmod (wrap64 (a1 + x21_1)) 8) * 8)))⟩ : S30)) l2 (l2.length : Int) x21_1) else (none)) else (none)) else (none)) = some (r1, r2) := by first | (rw [hji36] at H; exact H) | (simp only [hji36] at H ⊢; exact H)
      have hji36w : (IntKind.i64.wrap ((x8_1.length : Int) - 1)) = ji36 := (i64_w _).trans hji36
      by_cases c37 : 0 ≤ (ji36)
      rotate_left
      ·
       rw [if_neg c37] at H
       exact absurd H (by simp)
      rw [if_pos c37] at H
      have c37b0 : decide (0 ≤ (ji36)) = true := decide_eq_true c37
      clear c37
      by_cases c38 : (ji36) < (x8_1.length : Int)
      rotate_left
      ·
       rw [if_neg c38] at H
       exact absurd H (by simp)
      rw [if_pos c38] at H
      have c38b0 : decide ((ji36) < (x8_1.length : Int)) = true := decide_eq_true c38
      clear c38
      obtain ⟨ji40, hji40⟩ : ∃ j_ : Int, (wrap64 ((Int.tmod (wrap64 (a1 + x21_1)) 8) * 8)) = j_ := ⟨_, rfl⟩
      replace H : (if 0 ≤ (ji40) then (span_Edits.j2 kj9 l0 a1 (x8_1.set ((ji36) : Int).toNat (⟨(rd_T30 x8_1 (ji36)).f0, Go.bits .or .u64 (Go.bits .andNot .u64 ((rd_T30 x8_1 (ji36)).f1) (shl .u64 255 (ji40))) (shl .u64 (IntKind.u64.wrap ((rd l2 x21_1))) (ji40))⟩ : S30)) l2 (l2.length : Int) x21_1) else (none)) = some (r1, r2) := by first | (rw [hji40] at H; exact H) | (simp only [hji40] at H ⊢; exact H)
      have hji40w : (IntKind.i64.wrap ((Int.tmod (wrap64 (a1 + x21_1)) 8) * 8)) = ji40 := (i64_w _).trans hji40
      by_cases c41 : 0 ≤ (ji40)
      rotate_left
      ·
       rw [if_neg c41] at H
       exact absurd H (by simp)
      rw [if_pos c41] at H
      have c41b0 := eq_true c41
      have c41b1 : decide (0 ≤ (ji40)) = true := decide_eq_true c41
      clear c41
      obtain ⟨ji42, hji42⟩ : ∃ j_ : Int, (shl .u64 255 (ji40)) = j_ := ⟨_, rfl⟩
      replace H : (span_Edits.j2 kj9 l0 a1 (x8_1.set ((ji36) : Int).toNat (⟨(rd_T30 x8_1 (ji36)).f0, Go.bits .or .u64 (Go.bits .andNot .u64 ((rd_T30 x8_1 (ji36)).f1) (ji42)) (shl .u64 (IntKind.u64.wrap ((rd l2 x21_1))) (ji40))⟩ : S30)) l2 (l2.length : Int) x21_1) = some (r1, r2) := by first | (rw [hji42] at H; exact H) | (simp only [hji42] at H ⊢; exact H)
      have hji42_ : (IntKind.u64.wrap (255 * 2 ^ min (ji40).toNat 64)) = ji42 := hji42
      have hji42z : (ji40) ≤ 64 → (IntKind.u64.wrap (255 * 2 ^ (ji40).toNat)) = ji42 := shl_small hji42
      have c43b0 := eq_true (of_decide_eq_true (by first | (with_reducible assumption) | assumption) : 0 ≤ (ji40))
      obtain ⟨ji44, hji44⟩ : ∃ j_ : Int, (shl .u64 (IntKind.u64.wrap ((rd l2 x21_1))) (ji40)) = j_ := ⟨_, rfl⟩
      replace H : (span_Edits.j2 kj9 l0 a1 (x8_1.set ((ji36) : Int).toNat (⟨(rd_T30 x8_1 (ji36)).f0, Go.bits .or .u64 (Go.bits .andNot .u64 ((rd_T30 x8_1 (ji36)).f1) (ji42)) (ji44)⟩ : S30)) l2 (l2.length : Int) x21_1) = some (r1, r2) := by first | (rw [hji44] at H; exact H) | (simp only [hji44] at H ⊢; exact H)
      have hji44_ : (IntKind.u64.wrap ((IntKind.u64.wrap ((rd l2 x21_1))) * 2 ^ min (ji40).toNat 64)) = ji44 := hji44
      have hji44z : (ji40) ≤ 64 → (IntKind.u64.wrap ((IntKind.u64.wrap ((rd l2 x21_1))) * 2 ^ (ji40).toNat)) = ji44 := shl_small hji44
      obtain ⟨y223, hy223⟩ : ∃ y_ : List (S30), y_ = (x8_1.set ((ji36) : Int).toNat (⟨(rd_T30 x8_1 (ji36)).f0, Go.bits .or .u64 (Go.bits .andNot .u64 ((rd_T30 x8_1 (ji36)).f1) (ji42)) (ji44)⟩ : S30)) := ⟨_, rfl⟩
      replace H : (span_Edits.j2 kj9 l0 a1 y223 l2 (l2.length : Int) x21_1) = some (r1, r2) := by first | (rw [hy223]; with_reducible exact H) | (have H2_ := (Option.bind_some _ _).symm.trans H; rw [hy223]; with_reducible exact H2_) | (have H2_ := (Option.bind_some _ _).symm.trans H; with_reducible exact H2_) | with_reducible exact H | (rw [hy223]; exact H) | exact H
      have Ny223 := Aside0.mk hy223
      clear hy223
      have H' := Aside0.mk H
      clear H
      obtain ⟨Ao46, co46, eo46⟩ := Kd.R_slice HO_8.out
      subst eo46
      have p39 : 0 ≤ ((ji36) : Int) := of_decide_eq_true (by first | (with_reducible assumption) | assumption)
      have q39 : ((ji36) : Int) < ((x8_1.length : Int) : Int) := of_decide_eq_true (by first | (with_reducible assumption) | assumption)
      obtain ⟨go39, co39, eo39, gb39, gl39, cl39, HG39⟩ := Kd.R_form HO_8.out (by omega)
      (first | cases eo39 | (injection eo39 with ea_ en_ ec_; (first | subst ea_ | (injection ea_ with ea_; subst ea_)); subst ec_; clear en_))
      have GB39 := Aside0.mk gb39
      have GG39 := Aside0.mk HG39
      clear gb39 gl39 HG39
      obtain ⟨ce39, hcl39, hM39, hcc39, hfr39⟩ := Kd.R_elem HO_8.out z30 ((ji36) : Int) p39 q39
      obtain rfl := k30_openM hM39
      have hx39_0 : wc.cell? ⟨go39, ((ji36) : Int).toNat * 2, none⟩ = some (.int .i64 ((rd_T30 x8_1 (ji36)).f0)) := hcc39 0 _ rfl
      have hx39_1 : wc.cell? ⟨go39, ((ji36) : Int).toNat * 2 + 1, none⟩ = some (.int .u64 ((rd_T30 x8_1 (ji36)).f1)) := hcc39 1 _ rfl
      have hf39_0 : wc.frozen? ⟨go39, ((ji36) : Int).toNat * 2, none⟩ = false := hfr39 0
      have hf39_1 : wc.frozen? ⟨go39, ((ji36) : Int).toNat * 2 + 1, none⟩ = false := hfr39 1
      clear hcl39 hcc39 hfr39 hM39
      replace p39 := eq_true p39
      replace q39 := eq_true q39
      try go_wp2
      have n0_ := Aside0.mk (Kd.R_drew HO_8.out)
      have n1_ := Aside0.mk (below_drew1 HB.out)
      clear HO_8
      clear HB
      have HO_8 := n0_
      have HB := n1_
      clear n0_ n1_
      have p222 : 0 ≤ ((ji36) : Int) := of_decide_eq_true (by first | (with_reducible assumption) | assumption)
      have q222 : (ji36) < (x8_1.length : Int) := of_decide_eq_true (by first | (with_reducible assumption) | assumption)
      obtain ⟨ad222, e222, hx222_0, hx222_1⟩ := at_T30 (Kd.R_reads' HO_8.out).2.2 (ji36) p222 q222
      obtain rfl : (⟨go39, 0, none⟩ : Addr) = ad222 := (by injection e222)
      (first | simp only [add_plain] at hx222_0 | simp only [add_at] at hx222_0 | simp only [Addr.add, Nat.zero_add] at hx222_0 | skip)
      (first | simp only [add_plain] at hx222_1 | simp only [add_at] at hx222_1 | simp only [Addr.add, Nat.zero_add] at hx222_1 | skip)
      replace p222 := eq_true p222
      replace q222 := eq_true q222
      have p45 : 0 ≤ ((ji36) : Int) := of_decide_eq_true (by first | (with_reducible assumption) | assumption)
      have q45 : ((ji36) : Int) < ((x8_1.length : Int) : Int) := of_decide_eq_true (by first | (with_reducible assumption) | assumption)
      obtain ⟨ce45, hcl45, hM45, hcc45, hfr45⟩ := Kd.R_elem HO_8.out z30 ((ji36) : Int) p45 q45
      obtain rfl := k30_openM hM45
      have hx45_0 : World.cell? _ ⟨go39, ((ji36) : Int).toNat * 2, none⟩ = some (.int .i64 ((rd_T30 x8_1 (ji36)).f0)) := hcc45 0 _ rfl
      have hx45_1 : World.cell? _ ⟨go39, ((ji36) : Int).toNat * 2 + 1, none⟩ = some (.int .u64 ((rd_T30 x8_1 (ji36)).f1)) := hcc45 1 _ rfl
      have hf45_0 : World.frozen? _ ⟨go39, ((ji36) : Int).toNat * 2, none⟩ = false := hfr45 0
      have hf45_1 : World.frozen? _ ⟨go39, ((ji36) : Int).toNat * 2 + 1, none⟩ = false := hfr45 1
      clear hcl45 hcc45 hfr45 hM45
      replace p45 := eq_true p45
      replace q45 := eq_true q45
      obtain ⟨ce48, hcl48, hM48, hcc48, hfr48⟩ := Kd.R_elem HO_8.out z30 ((ji36) : Int) (of_decide_eq_true (by first | (with_reducible assumption) | assumption)) (by have h_ : ((ji36) : Int) < ((x8_1.length : Int) : Int) := of_decide_eq_true (by first | (with_reducible assumption) | assumption); first | exact h_ | (have e_ := (Kd.R_reads' HO_8.out).1; omega) | simpa using h_)
      obtain rfl := k30_openM hM48
      have HP48 := (Kd.R_seg HO_8.out ((ji36) : Int) (of_decide_eq_true (by first | (with_reducible assumption) | assumption)) (by have h_ : ((ji36) : Int) < ((x8_1.length : Int) : Int) := of_decide_eq_true (by first | (with_reducible assumption) | assumption); first | exact h_ | (have e_ := (Kd.R_reads' HO_8.out).1; omega) | simpa using h_) (seg := [.int .u64 (Go.bits .or .u64 (Go.bits .andNot .u64 ((rd_T30 x8_1 (ji36)).f1) (ji42)) (ji44))]) (j := 1) hcl48 hcc48 (show 2 ≤ 2 from by decide) (x' := (⟨(rd_T30 x8_1 (ji36)).f0, Go.bits .or .u64 (Go.bits .andNot .u64 ((rd_T30 x8_1 (ji36)).f1) (ji42)) (ji44)⟩ : S30)) (k30_mkM _ _ _ (⟨(rd_T30 x8_1 (ji36)).f0, Go.bits .or .u64 (Go.bits .andNot .u64 ((rd_T30 x8_1 (ji36)).f1) (ji42)) (ji44)⟩ : S30) ) (fun _ hk => hk)).1
      rw [← Ny223.out] at HP48
      have HQ48 := Aside0.mk HP48
      clear hcl48 hcc48 hfr48 hM48 HP48
      refine start_ (n := 20) (S := fun w' => w'.cell? ⟨go39, ((ji36)).toNat * 2, none⟩ = some (.int .i64 ((rd_T30 x8_1 (ji36)).f0)) ∧ w'.cell? ⟨go39, ((ji36)).toNat * 2 + 1, none⟩ = some (.int .u64 ((rd_T30 x8_1 (ji36)).f1))) (ds := [19]) (onA 20 0) (by kernel_rfl) rfl rfl ⟨hx222_0, hx222_1⟩ (fun hHeld => ?_); refine with_tabW span_Edits.tab11 span_Edits.bits11 (fun HT_ HW_ => ?_)
      generalize wc.drew = w47 at HO_8 HB HQ48 hf45_0 hf45_1 hx222_0 hx222_1 hx45_0 hx45_1 hHeld ⊢
      refine pure_ (i := 0) (N := some 60) (v := ?_) (a' := ?_) (onA 20 1) rfl rfl (any_of HT_.out (by kernel_rfl)) (fun _ _ _ h => h) (Or.inl ⟨by rfl, ?_⟩) ?_ ?_
      rotate_left
      ·
       intro w'
       go_simp
       with_reducible rfl
      rotate_left
      ·
       simp only [Act.put, List.setIfInBounds_toArray, List.set_cons_zero, List.set_cons_succ, i64_w, i32_w]
       rfl
      refine pure_ (i := 1) (N := some 61) (v := ?_) (a' := ?_) (onA 20 2) rfl rfl (any_of HT_.out (by kernel_rfl)) (fun _ _ _ h => h) (Or.inl ⟨by rfl, ?_⟩) ?_ ?_
      rotate_left
      ·
       intro w'
       go_simp
       with_reducible rfl
      rotate_left
      ·
       simp only [Act.put, List.setIfInBounds_toArray, List.set_cons_zero, List.set_cons_succ, i64_w, i32_w]
       rfl
      refine pure_ (i := 2) (N := some 62) (v := ?_) (a' := ?_) (onA 20 3) rfl rfl (any_of HT_.out (by kernel_rfl)) (fun _ _ _ h => h) (Or.inl ⟨by rfl, ?_⟩) ?_ ?_
      rotate_left
      ·
       intro w'
       go_simp
       with_reducible rfl
      rotate_left
      ·
       simp only [Act.put, List.setIfInBounds_toArray, List.set_cons_zero, List.set_cons_succ, i64_w, i32_w]
       rfl
      refine pure_ (i := 3) (N := some 63) (v := ?_) (a' := ?_) (onA 20 4) rfl rfl (any_of HT_.out (by kernel_rfl)) (fun _ _ _ h => h) (Or.inl ⟨by rfl, ?_⟩) ?_ ?_
      rotate_left
      ·
       intro w'
       go_simp
       with_reducible rfl
      rotate_left
      ·
       simp only [Act.put, List.setIfInBounds_toArray, List.set_cons_zero, List.set_cons_succ, i64_w, i32_w]
       rfl
      refine pure_ (i := 5) (N := some 65) (v := ?_) (a' := ?_) #[tt_, tt_, tt_, tt_, ff_, tt_, ff_, ff_, ff_, ff_, ff_, ff_, ff_, ff_, ff_, ff_, ff_, ff_, ff_, ff_] rfl rfl (any_of HT_.out (by kernel_rfl)) (fun _ _ _ h => h) (Or.inl ⟨by rfl, ?_⟩) ?_ ?_
      rotate_left
      ·
       intro w'
       go_simp
       with_reducible rfl
      rotate_left
      ·
       simp only [Act.put, List.setIfInBounds_toArray, List.set_cons_zero, List.set_cons_succ, i64_w, i32_w]
       rfl
      refine pure_ (i := 6) (N := some 66) (v := ?_) (a' := ?_) #[tt_, tt_, tt_, tt_, ff_, tt_, tt_, ff_, ff_, ff_, ff_, ff_, ff_, ff_, ff_, ff_, ff_, ff_, ff_, ff_] rfl rfl (any_of HT_.out (by kernel_rfl)) (fun _ _ _ h => h) (Or.inl ⟨by rfl, ?_⟩) ?_ ?_
      rotate_left
      ·
       intro w'
       go_simp
       with_reducible rfl
      rotate_left
      ·
       simp only [Act.put, List.setIfInBounds_toArray, List.set_cons_zero, List.set_cons_succ, i64_w, i32_w]
       rfl
      refine pure_ (i := 7) (N := some 67) (v := ?_) (a' := ?_) #[tt_, tt_, tt_, tt_, ff_, tt_, tt_, tt_, ff_, ff_, ff_, ff_, ff_, ff_, ff_, ff_, ff_, ff_, ff_, ff_] rfl rfl (any_of HT_.out (by kernel_rfl)) (fun _ _ _ h => h) (Or.inl ⟨by rfl, ?_⟩) ?_ ?_
      rotate_left
      ·
       intro w'
       go_simp
       with_reducible rfl
      rotate_left
      ·
       simp only [Act.put, List.setIfInBounds_toArray, List.set_cons_zero, List.set_cons_succ, i64_w, i32_w]
       rfl
      refine pure_ (i := 8) (N := some 68) (v := ?_) (a' := ?_) #[tt_, tt_, tt_, tt_, ff_, tt_, tt_, tt_, tt_, ff_, ff_, ff_, ff_, ff_, ff_, ff_, ff_, ff_, ff_, ff_] rfl rfl (any_of HT_.out (by kernel_rfl)) (fun _ _ _ h => h) (Or.inl ⟨by rfl, ?_⟩) ?_ ?_
      rotate_left
      ·
       intro w'
       go_simp
       with_reducible rfl
      rotate_left
      ·
       simp only [Act.put, List.setIfInBounds_toArray, List.set_cons_zero, List.set_cons_succ, i64_w, i32_w]
       rfl
      refine pure_ (i := 10) (N := some 70) (v := ?_) (a' := ?_) #[tt_, tt_, tt_, tt_, ff_, tt_, tt_, tt_, tt_, ff_, tt_, ff_, ff_, ff_, ff_, ff_, ff_, ff_, ff_, ff_] rfl rfl (any_of HT_.out (by kernel_rfl)) (fun _ _ _ h => h) (Or.inl ⟨by rfl, ?_⟩) ?_ ?_
      rotate_left
      ·
       intro w'
       go_simp
       with_reducible rfl
      rotate_left
      ·
       simp only [Act.put, List.setIfInBounds_toArray, List.set_cons_zero, List.set_cons_succ, i64_w, i32_w]
       rfl
      refine pure_ (i := 11) (N := some 71) (v := ?_) (a' := ?_) #[tt_, tt_, tt_, tt_, ff_, tt_, tt_, tt_, tt_, ff_, tt_, tt_, ff_, ff_, ff_, ff_, ff_, ff_, ff_, ff_] rfl rfl (any_of HT_.out (by kernel_rfl)) (fun _ _ _ h => h) (Or.inl ⟨by rfl, ?_⟩) ?_ ?_
      rotate_left
      ·
       intro w'
       go_simp
       with_reducible rfl
      rotate_left
      ·
       simp only [Act.put, List.setIfInBounds_toArray, List.set_cons_zero, List.set_cons_succ, i64_w, i32_w]
       rfl
      refine pure_ (i := 12) (N := some 72) (v := ?_) (a' := ?_) #[tt_, tt_, tt_, tt_, ff_, tt_, tt_, tt_, tt_, ff_, tt_, tt_, tt_, ff_, ff_, ff_, ff_, ff_, ff_, ff_] rfl rfl (any_of HT_.out (by kernel_rfl)) (fun _ _ _ h => h) (Or.inl ⟨by rfl, ?_⟩) ?_ ?_
      rotate_left
      ·
       intro w'
       go_simp
       with_reducible rfl
      rotate_left
      ·
       simp only [Act.put, List.setIfInBounds_toArray, List.set_cons_zero, List.set_cons_succ, i64_w, i32_w]
       rfl
      refine pure_ (i := 13) (N := some 73) (v := ?_) (a' := ?_) #[tt_, tt_, tt_, tt_, ff_, tt_, tt_, tt_, tt_, ff_, tt_, tt_, tt_, tt_, ff_, ff_, ff_, ff_, ff_, ff_] rfl rfl (any_of HT_.out (by kernel_rfl)) (fun _ _ _ h => h) (Or.inl ⟨by rfl, ?_⟩) ?_ ?_
      rotate_left
      ·
       intro w'
       go_simp
       with_reducible rfl
      rotate_left
      ·
       simp only [Act.put, List.setIfInBounds_toArray, List.set_cons_zero, List.set_cons_succ, i64_w, i32_w]
       rfl
      refine pure_ (i := 14) (N := some 74) (v := ?_) (a' := ?_) #[tt_, tt_, tt_, tt_, ff_, tt_, tt_, tt_, tt_, ff_, tt_, tt_, tt_, tt_, tt_, ff_, ff_, ff_, ff_, ff_] rfl rfl (any_of HT_.out (by kernel_rfl)) (fun _ _ _ h => h) (Or.inl ⟨by rfl, ?_⟩) ?_ ?_
      rotate_left
      ·
       intro w'
       go_simp
       with_reducible rfl
      rotate_left
      ·
       simp only [Act.put, List.setIfInBounds_toArray, List.set_cons_zero, List.set_cons_succ, i64_w, i32_w]
       rfl
      refine pure_ (i := 15) (N := some 75) (v := ?_) (a' := ?_) #[tt_, tt_, tt_, tt_, ff_, tt_, tt_, tt_, tt_, ff_, tt_, tt_, tt_, tt_, tt_, tt_, ff_, ff_, ff_, ff_] rfl rfl (any_of HT_.out (by kernel_rfl)) (fun _ _ _ h => h) (Or.inl ⟨by rfl, ?_⟩) ?_ ?_
      rotate_left
      ·
       intro w'
       go_simp
       with_reducible rfl
      rotate_left
      ·
       simp only [Act.put, List.setIfInBounds_toArray, List.set_cons_zero, List.set_cons_succ, i64_w, i32_w]
       rfl
      refine take_ (i := 4) (N := some 64) (v := ?_) (a' := ?_) #[tt_, tt_, tt_, tt_, tt_, tt_, tt_, tt_, tt_, ff_, tt_, tt_, tt_, tt_, tt_, tt_, ff_, ff_, ff_, ff_] rfl rfl (take_ofW HT_.out HW_.out (by kernel_rfl)) (fun _ _ _ h => h) (Or.inl ⟨by rfl, ?_⟩) hHeld ?_ ?_
      rotate_left
      ·
       rintro w' ⟨s0, s1⟩
       go_simp
       with_reducible rfl
      rotate_left
      ·
       simp only [Act.put, List.setIfInBounds_toArray, List.set_cons_zero, List.set_cons_succ, i64_w, i32_w]
       rfl
      refine pure_ (i := 9) (N := some 69) (v := ?_) (a' := ?_) (onA 20 16) rfl rfl (any_of HT_.out (by kernel_rfl)) (fun _ _ _ h => h) (Or.inl ⟨by rfl, ?_⟩) ?_ ?_
      rotate_left
      ·
       intro w'
       go_simp
       with_reducible rfl
      rotate_left
      ·
       simp only [Act.put, List.setIfInBounds_toArray, List.set_cons_zero, List.set_cons_succ, i64_w, i32_w]
       rfl
      refine pure_ (i := 16) (N := some 76) (v := ?_) (a' := ?_) (onA 20 17) rfl rfl (any_of HT_.out (by kernel_rfl)) (fun _ _ _ h => h) (Or.inl ⟨by rfl, ?_⟩) ?_ ?_
      rotate_left
      ·
       intro w'
       go_simp
       with_reducible rfl
      rotate_left
      ·
       simp only [Act.put, List.setIfInBounds_toArray, List.set_cons_zero, List.set_cons_succ, i64_w, i32_w]
       rfl
      refine pure_ (i := 17) (N := some 77) (v := ?_) (a' := ?_) (onA 20 18) rfl rfl (any_of HT_.out (by kernel_rfl)) (fun _ _ _ h => h) (Or.inl ⟨by rfl, ?_⟩) ?_ ?_
      rotate_left
      ·
       intro w'
       go_simp
       with_reducible rfl
      rotate_left
      ·
       simp only [Act.put, List.setIfInBounds_toArray, List.set_cons_zero, List.set_cons_succ, i64_w, i32_w]
       rfl
      refine pure_ (i := 18) (N := some 78) (v := ?_) (a' := ?_) (onA 20 19) rfl rfl (any_of HT_.out (by kernel_rfl)) (fun _ _ _ h => h) (Or.inl ⟨by rfl, ?_⟩) ?_ ?_
      rotate_left
      ·
       intro w'
       go_simp
       with_reducible rfl
      rotate_left
      ·
       simp only [Act.put, List.setIfInBounds_toArray, List.set_cons_zero, List.set_cons_succ, i64_w, i32_w]
       rfl
      refine last_ (i := 19) (N := none) (onA 20 20) rfl rfl (one_of HT_.out (by kernel_rfl)) (by decide) (fun K hK => ?_)
      refine skip_ (w1 := ?_) (by rfl) rfl ?_ ?_
      rotate_left
      ·
       go_simp
       rfl
      refine hK.out _ _ ?_
      clear hK K
      refine done_ (done_of HT_.out (by kernel_rfl)) ?_
      try go_wp2
      go_meet
      case rel => exact ⟨_, (y223), (by first | exact H' | ((try rw [hji13]); (try rw [hji18]); (try rw [hji22]); (try rw [hji26]); (try rw [hji28]); (try rw [hji30]); (try rw [hji36]); (try rw [hji40]); (try rw [hji42]); (try rw [hji44]); exact H')), ⟨by have := HK1.out; have := HJ9.out; first | omega | exact Nat.le_refl _⟩, ⟨by (with_reducible repeat (first | apply Kd.R_alloc | apply Kd.R_drewN | apply Kd.R_drew)); exact HQ48.out⟩, ⟨by repeat (first | (with_reducible first | exact HB.out | apply below_alloc | apply pw_below_drewN | apply below_drew1 | refine below_set ?_ GB39.out) | exact HB.out)⟩⟩
     subst c17
     have H1 : (if 0 ≤ (wrap64 (Int.tdiv (wrap64 (a1 + x21_1)) 8)) then (if (wrap64 (Int.tdiv (wrap64 (a1 + x21_1)) 8)) < (l0.length : Int) then (if x8_1.length < 8796093022208 then ((some (x8_1 ++ [(⟨wrap64 (Int.tdiv (wrap64 (a1 + x21_1)) 8), rd l0 (wrap64 (Int.tdiv (wrap64 (a1 + x21_1)) 8))⟩ : S30)] : List (S30))).bind fun y217 => (if 0 ≤ (wrap64 ((y217.length : Int) - 1)) then (if (wrap64 ((y217.length : Int) - 1)) < (y217.length : Int) then (if 0 ≤ (wrap64 ((Int.tmod (wrap64 (a1 + x21_1)) 8) * 8)) then (span_Edits.j2 kj9 l0 a1 (y217.set ((wrap64 ((y217.length : Int) - 1)) : Int).toNat (⟨(rd_T30 y217 (wrap64 ((y217.length : Int) - 1))).f0, Go.bits .or .u64 (Go.bits .andNot .u64 ((rd_T30 y217 (wrap64 ((y217.length : Int) - 1))).f1) (shl .u64 255 (wrap64 ((Int.tmod (wrap64 (a1 + x21_1)) 8) * 8)))) (shl .u64 (IntKind.u64.wrap ((rd l2 x21_1))) (wrap64 ((Int.tmod (wrap64 (a1 + x21_1)) 8) * 8)))⟩ : S30)) l2 (l2.length : Int) x21_1) else (none)) else (none)) else (none))) else (none)) else (none)) else (none)) = some (r1, r2) := by rw [if_pos rfl] at H; exact H
     clear H
     have H := H1
     clear H1
     obtain ⟨ji18, hji18⟩ : ∃ j_ : Int, (wrap64 (Int.tdiv (wrap64 (a1 + x21_1)) 8)) = j_ := ⟨_, rfl⟩
     replace H : (if 0 ≤ (ji18) then (if (ji18) < (l0.length : Int) then (if x8_1.length < 8796093022208 then ((some (x8_1 ++ [(⟨ji18, rd l0 (ji18)⟩ : S30)] : List (S30))).bind fun y217 => (if 0 ≤ (wrap64 ((y217.length : Int) - 1)) then (if (wrap64 ((y217.length : Int) - 1)) < (y217.length : Int) then (if 0 ≤ (wrap64 ((Int.tmod (wrap64 (a1 + x21_1)) 8) * 8)) then (span_Edits.j2 kj9 l0 a1 (y217.set ((wrap64 ((y217.length : Int) - 1)) : Int).toNat (⟨(rd_T30 y217 (wrap64 ((y217.length : Int) - 1))).f0, Go.bits .or .u64 (Go.bits .andNot .u64 ((rd_T30 y217 (wrap64 ((y217.length : Int) - 1))).f1) (shl .u64 255 (wrap64 ((Int.tmod (wrap64 (a1 + x21_1)) 8) * 8)))) (shl .u64 (IntKind.u64.wrap ((rd l2 x21_1))) (wrap64 ((Int.tmod (wrap64 (a1 + x21_1)) 8) * 8)))⟩ : S30)) l2 (l2.length : Int) x21_1) else (none)) else (none)) else (none))) else (none)) else (none)) else (none)) = some (r1, r2) := by first | (rw [hji18] at H; exact H) | (simp only [hji18] at H ⊢; exact H)
     have hji18w : (IntKind.i64.wrap (Int.tdiv (wrap64 (a1 + x21_1)) 8)) = ji18 := (i64_w _).trans hji18
     by_cases c19 : 0 ≤ (ji18)
     rotate_left
     ·
      rw [if_neg c19] at H
      exact absurd H (by simp)
     rw [if_pos c19] at H
     have c19b0 : decide (0 ≤ (ji18)) = true := decide_eq_true c19
     clear c19
     by_cases c20 : (ji18) < (l0.length : Int)
     rotate_left
     ·
      rw [if_neg c20] at H
      exact absurd H (by simp)
     rw [if_pos c20] at H
     have c20b0 : decide ((ji18) < (l0.length : Int)) = true := decide_eq_true c20
     clear c20
     by_cases c21 : x8_1.length < 8796093022208
     rotate_left
     ·
      rw [if_neg c21] at H
      exact absurd H (by simp)
     rw [if_pos c21] at H
     have LMc21 := Aside0.mk c21
     clear c21
     obtain ⟨y217, hy217⟩ : ∃ y_ : List (S30), y_ = (x8_1 ++ [(⟨ji18, rd l0 (ji18)⟩ : S30)]) := ⟨_, rfl⟩
     replace H : (if 0 ≤ (wrap64 ((y217.length : Int) - 1)) then (if (wrap64 ((y217.length : Int) - 1)) < (y217.length : Int) then (if 0 ≤ (wrap64 ((Int.tmod (wrap64 (a1 + x21_1)) 8) * 8)) then (span_Edits.j2 kj9 l0 a1 (y217.set ((wrap64 ((y217.length : Int) - 1)) : Int).toNat (⟨(rd_T30 y217 (wrap64 ((y217.length : Int) - 1))).f0, Go.bits .or .u64 (Go.bits .andNot .u64 ((rd_T30 y217 (wrap64 ((y217.length : Int) - 1))).f1) (shl .u64 255 (wrap64 ((Int.tmod (wrap64 (a1 + x21_1)) 8) * 8)))) (shl .u64 (IntKind.u64.wrap ((rd l2 x21_1))) (wrap64 ((Int.tmod (wrap64 (a1 + x21_1)) 8) * 8)))⟩ : S30)) l2 (l2.length : Int) x21_1) else (none)) else (none)) else (none)) = some (r1, r2) := by first | (rw [hy217]; with_reducible exact H) | (have H2_ := (Option.bind_some _ _).symm.trans H; rw [hy217]; with_reducible exact H2_) | (have H2_ := (Option.bind_some _ _).symm.trans H; with_reducible exact H2_) | with_reducible exact H | (rw [hy217]; exact H) | exact H
     have Ny217 := Aside0.mk hy217
     clear hy217
     obtain ⟨ji22, hji22⟩ : ∃ j_ : Int, (wrap64 ((y217.length : Int) - 1)) = j_ := ⟨_, rfl⟩
     replace H : (if 0 ≤ (ji22) then (if (ji22) < (y217.length : Int) then (if 0 ≤ (wrap64 ((Int.tmod (wrap64 (a1 + x21_1)) 8) * 8)) then (span_Edits.j2 kj9 l0 a1 (y217.set ((ji22) : Int).toNat (⟨(rd_T30 y217 (ji22)).f0, Go.bits .or .u64 (Go.bits .andNot .u64 ((rd_T30 y217 (ji22)).f1) (shl .u64 255 (wrap64 ((Int.tmod (wrap64 (a1 + x21_1)) 8) * 8)))) (shl .u64 (IntKind.u64.wrap ((rd l2 x21_1))) (wrap64 ((Int.tmod (wrap64 (a1 + x21_1)) 8) * 8)))⟩ : S30)) l2 (l2.length : Int) x21_1) else (none)) else (none)) else (none)) = some (r1, r2) := by first | (rw [hji22] at H; exact H) | (simp only [hji22] at H ⊢; exact H)
     have hji22w : (IntKind.i64.wrap ((y217.length : Int) - 1)) = ji22 := (i64_w _).trans hji22
     by_cases c23 : 0 ≤ (ji22)
     rotate_left
     ·
      rw [if_neg c23] at H
      exact absurd H (by simp)
     rw [if_pos c23] at H
     have c23b0 : decide (0 ≤ (ji22)) = true := decide_eq_true c23
     clear c23
     by_cases c24 : (ji22) < (y217.length : Int)
     rotate_left
     ·
      rw [if_neg c24] at H
      exact absurd H (by simp)
     rw [if_pos c24] at H
     have c24b0 : decide ((ji22) < (y217.length : Int)) = true := decide_eq_true c24
     clear c24
     obtain ⟨ji26, hji26⟩ : ∃ j_ : Int, (wrap64 ((Int.tmod (wrap64 (a1 + x21_1)) 8) * 8)) = j_ := ⟨_, rfl⟩
     replace H : (if 0 ≤ (ji26) then (span_Edits.j2 kj9 l0 a1 (y217.set ((ji22) : Int).toNat (⟨(rd_T30 y217 (ji22)).f0, Go.bits .or .u64 (Go.bits .andNot .u64 ((rd_T30 y217 (ji22)).f1) (shl .u64 255 (ji26))) (shl .u64 (IntKind.u64.wrap ((rd l2 x21_1))) (ji26))⟩ : S30)) l2 (l2.length : Int) x21_1) else (none)) = some (r1, r2) := by first | (rw [hji26] at H; exact H) | (simp only [hji26] at H ⊢; exact H)
     have hji26w : (IntKind.i64.wrap ((Int.tmod (wrap64 (a1 + x21_1)) 8) * 8)) = ji26 := (i64_w _).trans hji26
     by_cases c27 : 0 ≤ (ji26)
     rotate_left
     ·
      rw [if_neg c27] at H
      exact absurd H (by simp)
     rw [if_pos c27] at H
     have c27b0 := eq_true c27
     have c27b1 : decide (0 ≤ (ji26)) = true := decide_eq_true c27
     clear c27
     obtain ⟨ji28, hji28⟩ : ∃ j_ : Int, (shl .u64 255 (ji26)) = j_ := ⟨_, rfl⟩
     replace H : (span_Edits.j2 kj9 l0 a1 (y217.set ((ji22) : Int).toNat (⟨(rd_T30 y217 (ji22)).f0, Go.bits .or .u64 (Go.bits .andNot .u64 ((rd_T30 y217 (ji22)).f1) (ji28)) (shl .u64 (IntKind.u64.wrap ((rd l2 x21_1))) (ji26))⟩ : S30)) l2 (l2.length : Int) x21_1) = some (r1, r2) := by first | (rw [hji28] at H; exact H) | (simp only [hji28] at H ⊢; exact H)
     have hji28_ : (IntKind.u64.wrap (255 * 2 ^ min (ji26).toNat 64)) = ji28 := hji28
     have hji28z : (ji26) ≤ 64 → (IntKind.u64.wrap (255 * 2 ^ (ji26).toNat)) = ji28 := shl_small hji28
     have c29b0 := eq_true (of_decide_eq_true (by first | (with_reducible assumption) | assumption) : 0 ≤ (ji26))
     obtain ⟨ji30, hji30⟩ : ∃ j_ : Int, (shl .u64 (IntKind.u64.wrap ((rd l2 x21_1))) (ji26)) = j_ := ⟨_, rfl⟩
     replace H : (span_Edits.j2 kj9 l0 a1 (y217.set ((ji22) : Int).toNat (⟨(rd_T30 y217 (ji22)).f0, Go.bits .or .u64 (Go.bits .andNot .u64 ((rd_T30 y217 (ji22)).f1) (ji28)) (ji30)⟩ : S30)) l2 (l2.length : Int) x21_1) = some (r1, r2) := by first | (rw [hji30] at H; exact H) | (simp only [hji30] at H ⊢; exact H)
     have hji30_ : (IntKind.u64.wrap ((IntKind.u64.wrap ((rd l2 x21_1))) * 2 ^ min (ji26).toNat 64)) = ji30 := hji30
     have hji30z : (ji26) ≤ 64 → (IntKind.u64.wrap ((IntKind.u64.wrap ((rd l2 x21_1))) * 2 ^ (ji26).toNat)) = ji30 := shl_small hji30
     obtain ⟨y221, hy221⟩ : ∃ y_ : List (S30), y_ = (y217.set ((ji22) : Int).toNat (⟨(rd_T30 y217 (ji22)).f0, Go.bits .or .u64 (Go.bits .andNot .u64 ((rd_T30 y217 (ji22)).f1) (ji28)) (ji30)⟩ : S30)) := ⟨_, rfl⟩
     replace H : (span_Edits.j2 kj9 l0 a1 y221 l2 (l2.length : Int) x21_1) = some (r1, r2) := by first | (rw [hy221]; with_reducible exact H) | (have H2_ := (Option.bind_some _ _).symm.trans H; rw [hy221]; with_reducible exact H2_) | (have H2_ := (Option.bind_some _ _).symm.trans H; with_reducible exact H2_) | with_reducible exact H | (rw [hy221]; exact H) | exact H
     have Ny221 := Aside0.mk hy221
     clear hy221
     have H' := Aside0.mk H
     clear H
     have p216 : 0 ≤ ((ji18) : Int) := of_decide_eq_true (by first | (with_reducible assumption) | assumption)
     have q216 : (ji18) < (l0.length : Int) := of_decide_eq_true (by first | (with_reducible assumption) | assumption)
     obtain ⟨ad216, e216, hx216_0⟩ := Kd.at_int HR0.out (ji18) p216 q216
     cases e216
     replace hx216_0 := (HB.out.cell (World.block_lt_of_cell? w _ hx216_0)).trans hx216_0
     replace p216 := eq_true p216
     replace q216 := eq_true q216
     try go_wp2_with (first | ((with_reducible refine gate_builtin (b := .append) (xs := #[.tmp 44, .tmp 53]) rfl ?_); (try (refine gate_guard (by rfl) ?_; dsimp only)); at_builtin; refine Kd.R_append k30 (w0 := w) w.heap.size rfl (.tmp 44) (.tmp 53) 42 30 (.agg #[(.int .i64 0), (.int .u64 0)]) 16 rfl Try.underlying42 info30 rfl (by decide) (by omega) u8 x8_1 (⟨ji18, rd l0 (ji18)⟩ : S30) [.int .i64 ji18, .int .u64 (rd l0 (ji18))] (fun _ => True) (fun _ => False) rfl rfl ?aP (fun _ hk => hk.elim) ?aF ?aO ?aB ?aS ?aL ?_; (case aP => exact k30_mkM _ _ _ (⟨ji18, rd l0 (ji18)⟩ : S30)); (case aB => exact (by repeat (first | (with_reducible first | exact HB.out | apply below_alloc | apply pw_below_drewN | apply below_drew1) | exact HB.out))); (case aF => exact (fun _ _ => trivial)); (case aO => exact (by (with_reducible repeat (first | apply Kd.R_alloc | apply Kd.R_drewN | apply Kd.R_drew)); exact HO_8.out)); (case aS => exact (below_size (by repeat (first | (with_reducible first | exact HB.out | apply below_alloc | apply pw_below_drewN | apply below_drew1) | exact HB.out)))); (case aL => have := LMc21.out; omega); intro v218 w32 ho hb hg hat; rw [← Ny217.out] at ho; have n0_ := Aside0.mk (hb); have n1_ := Aside0.mk (ho); clear HB; clear HO_8; have HB := n0_; have HO219 := n1_; clear n0_ n1_; clear ho hb hg hat; obtain ⟨Ao33, co33, eo33⟩ := Kd.R_slice HO219.out; subst eo33; have p25 : 0 ≤ ((ji22) : Int) := of_decide_eq_true (by first | (with_reducible assumption) | assumption); have q25 : ((ji22) : Int) < ((y217.length : Int) : Int) := of_decide_eq_true (by first | (with_reducible assumption) | assumption); obtain ⟨go25, co25, eo25, gb25, gl25, cl25, HG25⟩ := Kd.R_form HO219.out (by omega); (first | cases eo25 | (injection eo25 with ea_ en_ ec_; (first | subst ea_ | (injection ea_ with ea_; subst ea_)); subst ec_; clear en_)); have GB25 := Aside0.mk gb25; have GG25 := Aside0.mk HG25; clear gb25 gl25 HG25; obtain ⟨ce25, hcl25, hM25, hcc25, hfr25⟩ := Kd.R_elem HO219.out z30 ((ji22) : Int) p25 q25; obtain rfl := k30_openM hM25; have hx25_0 : w32.cell? ⟨go25, ((ji22) : Int).toNat * 2, none⟩ = some (.int .i64 ((rd_T30 y217 (ji22)).f0)) := hcc25 0 _ rfl; have hx25_1 : w32.cell? ⟨go25, ((ji22) : Int).toNat * 2 + 1, none⟩ = some (.int .u64 ((rd_T30 y217 (ji22)).f1)) := hcc25 1 _ rfl; have hf25_0 : w32.frozen? ⟨go25, ((ji22) : Int).toNat * 2, none⟩ = false := hfr25 0; have hf25_1 : w32.frozen? ⟨go25, ((ji22) : Int).toNat * 2 + 1, none⟩ = false := hfr25 1; clear hcl25 hcc25 hfr25 hM25; replace p25 := eq_true p25; replace q25 := eq_true q25))
     have n0_ := Aside0.mk (Kd.R_drew HO219.out)
     have n1_ := Aside0.mk (below_drew1 HB.out)
     clear HO219
     clear HB
     have HO219 := n0_
     have HB := n1_
     clear n0_ n1_
     have p220 : 0 ≤ ((ji22) : Int) := of_decide_eq_true (by first | (with_reducible assumption) | assumption)
     have q220 : (ji22) < (y217.length : Int) := of_decide_eq_true (by first | (with_reducible assumption) | assumption)
     obtain ⟨ad220, e220, hx220_0, hx220_1⟩ := at_T30 (Kd.R_reads' HO219.out).2.2 (ji22) p220 q220
     obtain rfl : (⟨go25, 0, none⟩ : Addr) = ad220 := (by injection e220)
     (first | simp only [add_plain] at hx220_0 | simp only [add_at] at hx220_0 | simp only [Addr.add, Nat.zero_add] at hx220_0 | skip)
     (first | simp only [add_plain] at hx220_1 | simp only [add_at] at hx220_1 | simp only [Addr.add, Nat.zero_add] at hx220_1 | skip)
     replace p220 := eq_true p220
     replace q220 := eq_true q220
     have p31 : 0 ≤ ((ji22) : Int) := of_decide_eq_true (by first | (with_reducible assumption) | assumption)
     have q31 : ((ji22) : Int) < ((y217.length : Int) : Int) := of_decide_eq_true (by first | (with_reducible assumption) | assumption)
     obtain ⟨ce31, hcl31, hM31, hcc31, hfr31⟩ := Kd.R_elem HO219.out z30 ((ji22) : Int) p31 q31
     obtain rfl := k30_openM hM31
     have hx31_0 : World.cell? _ ⟨go25, ((ji22) : Int).toNat * 2, none⟩ = some (.int .i64 ((rd_T30 y217 (ji22)).f0)) := hcc31 0 _ rfl
     have hx31_1 : World.cell? _ ⟨go25, ((ji22) : Int).toNat * 2 + 1, none⟩ = some (.int .u64 ((rd_T30 y217 (ji22)).f1)) := hcc31 1 _ rfl
     have hf31_0 : World.frozen? _ ⟨go25, ((ji22) : Int).toNat * 2, none⟩ = false := hfr31 0
     have hf31_1 : World.frozen? _ ⟨go25, ((ji22) : Int).toNat * 2 + 1, none⟩ = false := hfr31 1
     clear hcl31 hcc31 hfr31 hM31
     replace p31 := eq_true p31
     replace q31 := eq_true q31
     obtain ⟨ce35, hcl35, hM35, hcc35, hfr35⟩ := Kd.R_elem HO219.out z30 ((ji22) : Int) (of_decide_eq_true (by first | (with_reducible assumption) | assumption)) (by have h_ : ((ji22) : Int) < ((y217.length : Int) : Int) := of_decide_eq_true (by first | (with_reducible assumption) | assumption); first | exact h_ | (have e_ := (Kd.R_reads' HO219.out).1; omega) | simpa using h_)
     obtain rfl := k30_openM hM35
     have HP35 := (Kd.R_seg HO219.out ((ji22) : Int) (of_decide_eq_true (by first | (with_reducible assumption) | assumption)) (by have h_ : ((ji22) : Int) < ((y217.length : Int) : Int) := of_decide_eq_true (by first | (with_reducible assumption) | assumption); first | exact h_ | (have e_ := (Kd.R_reads' HO219.out).1; omega) | simpa using h_) (seg := [.int .u64 (Go.bits .or .u64 (Go.bits .andNot .u64 ((rd_T30 y217 (ji22)).f1) (ji28)) (ji30))]) (j := 1) hcl35 hcc35 (show 2 ≤ 2 from by decide) (x' := (⟨(rd_T30 y217 (ji22)).f0, Go.bits .or .u64 (Go.bits .andNot .u64 ((rd_T30 y217 (ji22)).f1) (ji28)) (ji30)⟩ : S30)) (k30_mkM _ _ _ (⟨(rd_T30 y217 (ji22)).f0, Go.bits .or .u64 (Go.bits .andNot .u64 ((rd_T30 y217 (ji22)).f1) (ji28)) (ji30)⟩ : S30) ) (fun _ hk => hk)).1
     rw [← Ny221.out] at HP35
     have HQ35 := Aside0.mk HP35
     clear hcl35 hcc35 hfr35 hM35 HP35
     refine start_ (n := 20) (S := fun w' => w'.cell? ⟨go25, ((ji22)).toNat * 2, none⟩ = some (.int .i64 ((rd_T30 y217 (ji22)).f0)) ∧ w'.cell? ⟨go25, ((ji22)).toNat * 2 + 1, none⟩ = some (.int .u64 ((rd_T30 y217 (ji22)).f1))) (ds := [19]) (onA 20 0) (by kernel_rfl) rfl rfl ⟨hx220_0, hx220_1⟩ (fun hHeld => ?_); refine with_tabW span_Edits.tab11 span_Edits.bits11 (fun HT_ HW_ => ?_)
     generalize w32.drew = w34 at HO219 HB HQ35 hf31_0 hf31_1 hx220_0 hx220_1 hx31_0 hx31_1 hHeld ⊢
     refine pure_ (i := 0) (N := some 60) (v := ?_) (a' := ?_) (onA 20 1) rfl rfl (any_of HT_.out (by kernel_rfl)) (fun _ _ _ h => h) (Or.inl ⟨by rfl, ?_⟩) ?_ ?_
     rotate_left
     ·
      intro w'
      go_simp
      with_reducible rfl
     rotate_left
     ·
      simp only [Act.put, List.setIfInBounds_toArray, List.set_cons_zero, List.set_cons_succ, i64_w, i32_w]
      rfl
     refine pure_ (i := 1) (N := some 61) (v := ?_) (a' := ?_) (onA 20 2) rfl rfl (any_of HT_.out (by kernel_rfl)) (fun _ _ _ h => h) (Or.inl ⟨by rfl, ?_⟩) ?_ ?_
     rotate_left
     ·
      intro w'
      go_simp
      with_reducible rfl
     rotate_left
     ·
      simp only [Act.put, List.setIfInBounds_toArray, List.set_cons_zero, List.set_cons_succ, i64_w, i32_w]
      rfl
     refine pure_ (i := 2) (N := some 62) (v := ?_) (a' := ?_) (onA 20 3) rfl rfl (any_of HT_.out (by kernel_rfl)) (fun _ _ _ h => h) (Or.inl ⟨by rfl, ?_⟩) ?_ ?_
     rotate_left
     ·
      intro w'
      go_simp
      with_reducible rfl
     rotate_left
     ·
      simp only [Act.put, List.setIfInBounds_toArray, List.set_cons_zero, List.set_cons_succ, i64_w, i32_w]
      rfl
     refine pure_ (i := 3) (N := some 63) (v := ?_) (a' := ?_) (onA 20 4) rfl rfl (any_of HT_.out (by kernel_rfl)) (fun _ _ _ h => h) (Or.inl ⟨by rfl, ?_⟩) ?_ ?_
     rotate_left
     ·
      intro w'
      go_simp
      with_reducible rfl
     rotate_left
     ·
      simp only [Act.put, List.setIfInBounds_toArray, List.set_cons_zero, List.set_cons_succ, i64_w, i32_w]
      rfl
     refine pure_ (i := 5) (N := some 65) (v := ?_) (a' := ?_) #[tt_, tt_, tt_, tt_, ff_, tt_, ff_, ff_, ff_, ff_, ff_, ff_, ff_, ff_, ff_, ff_, ff_, ff_, ff_, ff_] rfl rfl (any_of HT_.out (by kernel_rfl)) (fun _ _ _ h => h) (Or.inl ⟨by rfl, ?_⟩) ?_ ?_
     rotate_left
     ·
      intro w'
      go_simp
      with_reducible rfl
     rotate_left
     ·
      simp only [Act.put, List.setIfInBounds_toArray, List.set_cons_zero, List.set_cons_succ, i64_w, i32_w]
      rfl
     refine pure_ (i := 6) (N := some 66) (v := ?_) (a' := ?_) #[tt_, tt_, tt_, tt_, ff_, tt_, tt_, ff_, ff_, ff_, ff_, ff_, ff_, ff_, ff_, ff_, ff_, ff_, ff_, ff_] rfl rfl (any_of HT_.out (by kernel_rfl)) (fun _ _ _ h => h) (Or.inl ⟨by rfl, ?_⟩) ?_ ?_
     rotate_left
     ·
      intro w'
      go_simp
      with_reducible rfl
     rotate_left
     ·
      simp only [Act.put, List.setIfInBounds_toArray, List.set_cons_zero, List.set_cons_succ, i64_w, i32_w]
      rfl
     refine pure_ (i := 7) (N := some 67) (v := ?_) (a' := ?_) #[tt_, tt_, tt_, tt_, ff_, tt_, tt_, tt_, ff_, ff_, ff_, ff_, ff_, ff_, ff_, ff_, ff_, ff_, ff_, ff_] rfl rfl (any_of HT_.out (by kernel_rfl)) (fun _ _ _ h => h) (Or.inl ⟨by rfl, ?_⟩) ?_ ?_
     rotate_left
     ·
      intro w'
      go_simp
      with_reducible rfl
     rotate_left
     ·
      simp only [Act.put, List.setIfInBounds_toArray, List.set_cons_zero, List.set_cons_succ, i64_w, i32_w]
      rfl
     refine pure_ (i := 8) (N := some 68) (v := ?_) (a' := ?_) #[tt_, tt_, tt_, tt_, ff_, tt_, tt_, tt_, tt_, ff_, ff_, ff_, ff_, ff_, ff_, ff_, ff_, ff_, ff_, ff_] rfl rfl (any_of HT_.out (by kernel_rfl)) (fun _ _ _ h => h) (Or.inl ⟨by rfl, ?_⟩) ?_ ?_
     rotate_left
     ·
      intro w'
      go_simp
      with_reducible rfl
     rotate_left
     ·
      simp only [Act.put, List.setIfInBounds_toArray, List.set_cons_zero, List.set_cons_succ, i64_w, i32_w]
      rfl
     refine pure_ (i := 10) (N := some 70) (v := ?_) (a' := ?_) #[tt_, tt_, tt_, tt_, ff_, tt_, tt_, tt_, tt_, ff_, tt_, ff_, ff_, ff_, ff_, ff_, ff_, ff_, ff_, ff_] rfl rfl (any_of HT_.out (by kernel_rfl)) (fun _ _ _ h => h) (Or.inl ⟨by rfl, ?_⟩) ?_ ?_
     rotate_left
     ·
      intro w'
      go_simp
      with_reducible rfl
     rotate_left
     ·
      simp only [Act.put, List.setIfInBounds_toArray, List.set_cons_zero, List.set_cons_succ, i64_w, i32_w]
      rfl
     refine pure_ (i := 11) (N := some 71) (v := ?_) (a' := ?_) #[tt_, tt_, tt_, tt_, ff_, tt_, tt_, tt_, tt_, ff_, tt_, tt_, ff_, ff_, ff_, ff_, ff_, ff_, ff_, ff_] rfl rfl (any_of HT_.out (by kernel_rfl)) (fun _ _ _ h => h) (Or.inl ⟨by rfl, ?_⟩) ?_ ?_
     rotate_left
     ·
      intro w'
      go_simp
      with_reducible rfl
     rotate_left
     ·
      simp only [Act.put, List.setIfInBounds_toArray, List.set_cons_zero, List.set_cons_succ, i64_w, i32_w]
      rfl
     refine pure_ (i := 12) (N := some 72) (v := ?_) (a' := ?_) #[tt_, tt_, tt_, tt_, ff_, tt_, tt_, tt_, tt_, ff_, tt_, tt_, tt_, ff_, ff_, ff_, ff_, ff_, ff_, ff_] rfl rfl (any_of HT_.out (by kernel_rfl)) (fun _ _ _ h => h) (Or.inl ⟨by rfl, ?_⟩) ?_ ?_
     rotate_left
     ·
      intro w'
      go_simp
      with_reducible rfl
     rotate_left
     ·
      simp only [Act.put, List.setIfInBounds_toArray, List.set_cons_zero, List.set_cons_succ, i64_w, i32_w]
      rfl
     refine pure_ (i := 13) (N := some 73) (v := ?_) (a' := ?_) #[tt_, tt_, tt_, tt_, ff_, tt_, tt_, tt_, tt_, ff_, tt_, tt_, tt_, tt_, ff_, ff_, ff_, ff_, ff_, ff_] rfl rfl (any_of HT_.out (by kernel_rfl)) (fun _ _ _ h => h) (Or.inl ⟨by rfl, ?_⟩) ?_ ?_
     rotate_left
     ·
      intro w'
      go_simp
      with_reducible rfl
     rotate_left
     ·
      simp only [Act.put, List.setIfInBounds_toArray, List.set_cons_zero, List.set_cons_succ, i64_w, i32_w]
      rfl
     refine pure_ (i := 14) (N := some 74) (v := ?_) (a' := ?_) #[tt_, tt_, tt_, tt_, ff_, tt_, tt_, tt_, tt_, ff_, tt_, tt_, tt_, tt_, tt_, ff_, ff_, ff_, ff_, ff_] rfl rfl (any_of HT_.out (by kernel_rfl)) (fun _ _ _ h => h) (Or.inl ⟨by rfl, ?_⟩) ?_ ?_
     rotate_left
     ·
      intro w'
      go_simp
      with_reducible rfl
     rotate_left
     ·
      simp only [Act.put, List.setIfInBounds_toArray, List.set_cons_zero, List.set_cons_succ, i64_w, i32_w]
      rfl
     refine pure_ (i := 15) (N := some 75) (v := ?_) (a' := ?_) #[tt_, tt_, tt_, tt_, ff_, tt_, tt_, tt_, tt_, ff_, tt_, tt_, tt_, tt_, tt_, tt_, ff_, ff_, ff_, ff_] rfl rfl (any_of HT_.out (by kernel_rfl)) (fun _ _ _ h => h) (Or.inl ⟨by rfl, ?_⟩) ?_ ?_
     rotate_left
     ·
      intro w'
      go_simp
      with_reducible rfl
     rotate_left
     ·
      simp only [Act.put, List.setIfInBounds_toArray, List.set_cons_zero, List.set_cons_succ, i64_w, i32_w]
      rfl
     refine take_ (i := 4) (N := some 64) (v := ?_) (a' := ?_) #[tt_, tt_, tt_, tt_, tt_, tt_, tt_, tt_, tt_, ff_, tt_, tt_, tt_, tt_, tt_, tt_, ff_, ff_, ff_, ff_] rfl rfl (take_ofW HT_.out HW_.out (by kernel_rfl)) (fun _ _ _ h => h) (Or.inl ⟨by rfl, ?_⟩) hHeld ?_ ?_
     rotate_left
     ·
      rintro w' ⟨s0, s1⟩
      go_simp
      with_reducible rfl
     rotate_left
     ·
      simp only [Act.put, List.setIfInBounds_toArray, List.set_cons_zero, List.set_cons_succ, i64_w, i32_w]
      rfl
     refine pure_ (i := 9) (N := some 69) (v := ?_) (a' := ?_) (onA 20 16) rfl rfl (any_of HT_.out (by kernel_rfl)) (fun _ _ _ h => h) (Or.inl ⟨by rfl, ?_⟩) ?_ ?_
     rotate_left
     ·
      intro w'
      go_simp
      with_reducible rfl
     rotate_left
     ·
      simp only [Act.put, List.setIfInBounds_toArray, List.set_cons_zero, List.set_cons_succ, i64_w, i32_w]
      rfl
     refine pure_ (i := 16) (N := some 76) (v := ?_) (a' := ?_) (onA 20 17) rfl rfl (any_of HT_.out (by kernel_rfl)) (fun _ _ _ h => h) (Or.inl ⟨by rfl, ?_⟩) ?_ ?_
     rotate_left
     ·
      intro w'
      go_simp
      with_reducible rfl
     rotate_left
     ·
      simp only [Act.put, List.setIfInBounds_toArray, List.set_cons_zero, List.set_cons_succ, i64_w, i32_w]
      rfl
     refine pure_ (i := 17) (N := some 77) (v := ?_) (a' := ?_) (onA 20 18) rfl rfl (any_of HT_.out (by kernel_rfl)) (fun _ _ _ h => h) (Or.inl ⟨by rfl, ?_⟩) ?_ ?_
     rotate_left
     ·
      intro w'
      go_simp
      with_reducible rfl
     rotate_left
     ·
      simp only [Act.put, List.setIfInBounds_toArray, List.set_cons_zero, List.set_cons_succ, i64_w, i32_w]
      rfl
     refine pure_ (i := 18) (N := some 78) (v := ?_) (a' := ?_) (onA 20 19) rfl rfl (any_of HT_.out (by kernel_rfl)) (fun _ _ _ h => h) (Or.inl ⟨by rfl, ?_⟩) ?_ ?_
     rotate_left
     ·
      intro w'
      go_simp
      with_reducible rfl
     rotate_left
     ·
      simp only [Act.put, List.setIfInBounds_toArray, List.set_cons_zero, List.set_cons_succ, i64_w, i32_w]
      rfl
     refine last_ (i := 19) (N := none) (onA 20 20) rfl rfl (one_of HT_.out (by kernel_rfl)) (by decide) (fun K hK => ?_)
     refine skip_ (w1 := ?_) (by rfl) rfl ?_ ?_
     rotate_left
     ·
      go_simp
      rfl
     refine hK.out _ _ ?_
     clear hK K
     refine done_ (done_of HT_.out (by kernel_rfl)) ?_
     try go_wp2
     go_meet
     case rel => exact ⟨_, (y221), (by first | exact H' | ((try rw [hji13]); (try rw [hji18]); (try rw [hji22]); (try rw [hji26]); (try rw [hji28]); (try rw [hji30]); exact H')), ⟨by have := HK1.out; have := HJ9.out; first | omega | exact Nat.le_refl _⟩, ⟨by (with_reducible repeat (first | apply Kd.R_alloc | apply Kd.R_drewN | apply Kd.R_drew)); exact HQ35.out⟩, ⟨by repeat (first | (with_reducible first | exact HB.out | apply below_alloc | apply pw_below_drewN | apply below_drew1 | refine below_set ?_ GB25.out) | exact HB.out)⟩⟩
   clear HC7
   try clear c1
   try clear c2
   try clear p2
   try clear q2
   try clear hx2
   try clear c3
   try clear p3
   try clear q3
   try clear hx3
   try clear hf3
   try clear c4
   try clear p4
   try clear q4
   try clear hx4
   try clear hf4
   try clear c5
   try clear c6
   try clear c6b0
   try clear p6
   try clear c7
   try clear c8
   try clear c8b0
   try clear c9
   try clear c9b0
   try clear c11
   try clear c11b0
   try clear c11b1
   try clear c11b2
   try clear c14
   try clear c14b0
   try clear c15
   try clear c15b0
   try clear c17
   try clear c19
   try clear c19b0
   try clear c20
   try clear c20b0
   try clear c21
   try clear p21
   try clear q21
   try clear hx21
   try clear p22
   try clear q22
   try clear hx22
   try clear c23
   try clear c23b0
   try clear c24
   try clear c24b0
   try clear c25
   try clear p25
   try clear q25
   try clear hx25
   try clear hf25
   try clear c27
   try clear c27b0
   try clear c27b1
   try clear c29
   try clear c29b0
   try clear c31
   try clear p31
   try clear q31
   try clear hx31
   try clear hf31
   try clear c35
   try clear c37
   try clear c37b0
   try clear c38
   try clear c38b0
   try clear c39
   try clear p39
   try clear q39
   try clear hx39
   try clear hf39
   try clear c41
   try clear c41b0
   try clear c41b1
   try clear c43
   try clear c43b0
   try clear c45
   try clear p45
   try clear q45
   try clear hx45
   try clear hf45
   try clear c48
   try clear hx214_0
   try clear hx215_0
   try clear hx215_1
   try clear hx216_0
   try clear hx220_0
   try clear hx220_1
   try clear hx222_0
   try clear hx222_1
   try clear hx25_0
   try clear hx25_1
   try clear hx31_0
   try clear hx31_1
   try clear hx39_0
   try clear hx39_1
   try clear hx45_0
   try clear hx45_1
   try clear p2
   try clear p214
   try clear p215
   try clear p216
   try clear p220
   try clear p222
   try clear p25
   try clear p31
   try clear p39
   try clear p45
   try clear p6
   try clear q2
   try clear q214
   try clear q215
   try clear q216
   try clear q220
   try clear q222
   try clear q25
   try clear q31
   try clear q39
   try clear q45
   obtain ⟨kq, x8_6, HA, HJ6, HO_8, HB⟩ := hcut
   cases kq with
   | zero => exact absurd HA.out (by simp [span_Edits.j2])
   | succ kj6 =>
    have H := HA.out
    clear HA
    simp only [span_Edits.j2] at H
    have H' := Aside0.mk H
    clear H
    go_wp2
    go_roundg kj6
    case measure => have := HK1.out; have := HJ6.out; omega
    case rel => exact ⟨(x8_6), (wrap64 (x21_1 + 1)), (by first | rfl | (simp; done) | (simp [*]; done)), (by first | exact H' | ((try rw [hji13]); (try rw [hji18]); (try rw [hji22]); (try rw [hji26]); (try rw [hji28]); (try rw [hji30]); (try rw [hji36]); (try rw [hji40]); (try rw [hji42]); (try rw [hji44]); exact H')), ⟨by have := HK1.out; have := HJ6.out; omega⟩, ⟨by (with_reducible repeat (first | apply Kd.R_alloc | apply Kd.R_drewN | apply Kd.R_drew)); exact HO_8.out⟩, ⟨by repeat (first | (with_reducible first | exact HB.out | apply below_alloc | apply pw_below_drewN | apply below_drew1) | exact HB.out)⟩⟩

end Go.Proofs.Ytglekonhdjploaa.XImageKeeps
