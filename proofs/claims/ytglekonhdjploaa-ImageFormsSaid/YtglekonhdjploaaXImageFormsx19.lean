-- printed by wip/xprint.py
import Derived.Test.YtglekonhdjploaaXImageFormsx0
import Derived.Test.YtglekonhdjploaaXImageFormsx17
import Derived.Test.YtglekonhdjploaaXImageFormsx18
namespace Go.Proofs.Ytglekonhdjploaa.XImageForms
open Go.RowKit Go.Proofs.YtglekonhdjploaaW.PrintWords Go.Proofs.YtglekonhdjploaaW.PrintLast Go.Proofs.YtglekonhdjploaaW.PrintMore
attribute [local go_sem] max2_int min2_int max_two min_two max_three min_three max_four min_four
set_option linter.unusedVariables false
set_option linter.unusedSimpArgs false

/-! ### darningref4_Choose: function 74 -/
mutual
def darningref4_Choose.l0 : Nat → List (S35) → List Int → Int → List Int → Int → Int → Option (Int)
 | 0, _, _, _, _, _, _ => none
 | k + 1, x0, x2, x7, x12, x13, x14 => if x14 < x13 then (if 0 ≤ x14 then (if x14 < (x12.length : Int) then (if x7 < 0 then (darningref4_Choose.j1 k x0 x2 x7 (rd x12 x14) x12 x13 x14 true) else (if 0 ≤ (rd x12 x14) then (if (rd x12 x14) < (x0.length : Int) then ((darningref4_countAt.f ((rd_T35 x0 (rd x12 x14)).f0) x2).bind fun t350 => (if 0 ≤ x7 then (if x7 < (x0.length : Int) then ((darningref4_countAt.f ((rd_T35 x0 x7).f0) x2).bind fun t352 => (if t350 < t352 then (darningref4_Choose.j1 k x0 x2 x7 (rd x12 x14) x12 x13 x14 true) else ((darningref4_countAt.f ((rd_T35 x0 (rd x12 x14)).f0) x2).bind fun t354 => ((darningref4_countAt.f ((rd_T35 x0 x7).f0) x2).bind fun t356 => (if t354 = t356 then (darningref4_Choose.j1 k x0 x2 x7 (rd x12 x14) x12 x13 x14 (decide (((rd_T35 x0 (rd x12 x14)).f0) < ((rd_T35 x0 x7).f0)))) else (darningref4_Choose.j1 k x0 x2 x7 (rd x12 x14) x12 x13 x14 false)))))) else (none)) else (none))) else (none)) else (none))) else (none)) else (none)) else (some x7)
def darningref4_Choose.j2 : Nat → List (S35) → List Int → Int → List Int → Int → Int → Option (Int)
 | 0, _, _, _, _, _, _ => none
 | k + 1, x0, x2, x7, x12, x13, x14 => darningref4_Choose.l0 k x0 x2 x7 x12 x13 (wrap64 (x14 + 1))
def darningref4_Choose.j1 : Nat → List (S35) → List Int → Int → Int → List Int → Int → Int → Bool → Option (Int)
 | 0, _, _, _, _, _, _, _, _ => none
 | k + 1, x0, x2, x7, x9, x12, x13, x14, x66 => if x66 = true then (darningref4_Choose.j2 k x0 x2 x9 x12 x13 x14) else (darningref4_Choose.j2 k x0 x2 x7 x12 x13 x14)
end
def darningref4_Choose.f (k : Nat) (l0 : List (S35)) (a1 : Int) (l2 : List Int) : Option (Int) := (darningref4_Fits.f k l0 a1).bind fun t345 => (darningref4_Choose.l0 k l0 l2 (-1) t345 (t345.length : Int) 0)
theorem darningref4_Choose.mono_l : ∀ k, (∀ y0 y1 y2 y3 y4 y5, LeO (darningref4_Choose.l0 k y0 y1 y2 y3 y4 y5) (darningref4_Choose.l0 (k + 1) y0 y1 y2 y3 y4 y5)) ∧ (∀ y0 y1 y2 y3 y4 y5, LeO (darningref4_Choose.j2 k y0 y1 y2 y3 y4 y5) (darningref4_Choose.j2 (k + 1) y0 y1 y2 y3 y4 y5)) ∧ (∀ y0 y1 y2 y3 y4 y5 y6 y7, LeO (darningref4_Choose.j1 k y0 y1 y2 y3 y4 y5 y6 y7) (darningref4_Choose.j1 (k + 1) y0 y1 y2 y3 y4 y5 y6 y7))
 | 0 => ⟨fun _ _ _ _ _ _ r h => by simp [darningref4_Choose.l0] at h, fun _ _ _ _ _ _ r h => by simp [darningref4_Choose.j2] at h, fun _ _ _ _ _ _ _ _ r h => by simp [darningref4_Choose.j1] at h⟩
 | k + 1 => by
  obtain ⟨ih0, ih1, ih2⟩ := darningref4_Choose.mono_l k
  refine ⟨?_, ?_, ?_⟩
  ·
   intro y0 y1 y2 y3 y4 y5
   unfold darningref4_Choose.l0
   repeat' first
   | (with_reducible exact ih0 _ _ _ _ _ _)
   | (with_reducible exact ih1 _ _ _ _ _ _)
   | (with_reducible exact ih2 _ _ _ _ _ _ _ _)
   | (with_reducible exact darningref4_Fits.mono _ _ _)
   | (with_reducible exact LeO.refl _)
   | (with_reducible exact LeO.none _)
   | (with_reducible refine LeO.ite ?_ ?_)
   | (with_reducible refine LeO.bind ?_ (fun _ => ?_))
   | exact ih0 _ _ _ _ _ _
   | exact ih1 _ _ _ _ _ _
   | exact ih2 _ _ _ _ _ _ _ _
   | exact darningref4_Fits.mono _ _ _
   | exact LeO.none _
   | refine LeO.ite ?_ ?_
   | refine LeO.bind ?_ (fun _ => ?_)
  ·
   intro y0 y1 y2 y3 y4 y5
   unfold darningref4_Choose.j2
   repeat' first
   | (with_reducible exact ih0 _ _ _ _ _ _)
   | (with_reducible exact ih1 _ _ _ _ _ _)
   | (with_reducible exact ih2 _ _ _ _ _ _ _ _)
   | (with_reducible exact darningref4_Fits.mono _ _ _)
   | (with_reducible exact LeO.refl _)
   | (with_reducible exact LeO.none _)
   | (with_reducible refine LeO.ite ?_ ?_)
   | (with_reducible refine LeO.bind ?_ (fun _ => ?_))
   | exact ih0 _ _ _ _ _ _
   | exact ih1 _ _ _ _ _ _
   | exact ih2 _ _ _ _ _ _ _ _
   | exact darningref4_Fits.mono _ _ _
   | exact LeO.none _
   | refine LeO.ite ?_ ?_
   | refine LeO.bind ?_ (fun _ => ?_)
  ·
   intro y0 y1 y2 y3 y4 y5 y6 y7
   unfold darningref4_Choose.j1
   repeat' first
   | (with_reducible exact ih0 _ _ _ _ _ _)
   | (with_reducible exact ih1 _ _ _ _ _ _)
   | (with_reducible exact ih2 _ _ _ _ _ _ _ _)
   | (with_reducible exact darningref4_Fits.mono _ _ _)
   | (with_reducible exact LeO.refl _)
   | (with_reducible exact LeO.none _)
   | (with_reducible refine LeO.ite ?_ ?_)
   | (with_reducible refine LeO.bind ?_ (fun _ => ?_))
   | exact ih0 _ _ _ _ _ _
   | exact ih1 _ _ _ _ _ _
   | exact ih2 _ _ _ _ _ _ _ _
   | exact darningref4_Fits.mono _ _ _
   | exact LeO.none _
   | refine LeO.ite ?_ ?_
   | refine LeO.bind ?_ (fun _ => ?_)
theorem darningref4_Choose.mono : ∀ a0 a1 a2 k, LeO (darningref4_Choose.f k a0 a1 a2) (darningref4_Choose.f (k + 1) a0 a1 a2) := by
 intro a0 a1 a2 k
 obtain ⟨ih0, ih1, ih2⟩ := darningref4_Choose.mono_l k
 unfold darningref4_Choose.f
 repeat' first
   | (with_reducible exact ih0 _ _ _ _ _ _)
   | (with_reducible exact ih1 _ _ _ _ _ _)
   | (with_reducible exact ih2 _ _ _ _ _ _ _ _)
   | (with_reducible exact darningref4_Fits.mono _ _ _)
   | (with_reducible exact LeO.refl _)
   | (with_reducible exact LeO.none _)
   | (with_reducible refine LeO.ite ?_ ?_)
   | (with_reducible refine LeO.bind ?_ (fun _ => ?_))
   | exact ih0 _ _ _ _ _ _
   | exact ih1 _ _ _ _ _ _
   | exact ih2 _ _ _ _ _ _ _ _
   | exact darningref4_Fits.mono _ _ _
   | exact LeO.none _
   | refine LeO.ite ?_ ?_
   | refine LeO.bind ?_ (fun _ => ?_)
def darningref4_Choose.T5 : Bool × List (List Nat × List Nat) := (true, [([], []), ([0], [0]), ([1], [1]), ([2], [2]), ([2], [2]), ([3, 4, 2], [2, 3, 4]), ([5, 2], [2, 5]), ([6, 2], [2, 6]), ([2], [2]), ([7, 8, 2, 2], [2, 7, 8]), ([2], [2]), ([2], [2]), ([10, 11, 2], [2, 10, 11]), ([12, 2], [2, 12]), ([13, 2], [2, 13]), ([2], [2]), ([14, 15, 9, 2], [2, 14, 15]), ([9, 16, 2], [2, 9, 16]), ([2, 17], [2, 17]), ([18, 16], [18]), ([19], [19]), ([19], [19]), ([20, 21, 19], [19, 20, 21]), ([22, 19], [19, 22]), ([23, 19], [19, 23]), ([19], [19]), ([24, 25, 19, 19], [19, 24, 25]), ([19], [19]), ([19], [19]), ([27, 28, 19], [19, 27, 28]), ([29, 19], [19, 29]), ([30, 19], [19, 30]), ([19], [19]), ([31, 32, 26, 19], [19, 31, 32]), ([26, 33, 19], [19, 26, 33]), ([34, 33, 19], [19, 34]), ([35], [35]), ([35], [35]), ([36, 37, 35], [35, 36, 37]), ([38, 35], [35, 38]), ([39, 35], [35, 39]), ([35], [35]), ([35], [35]), ([41, 42, 35], [35, 41, 42]), ([43, 35], [35, 43]), ([44, 35], [35, 44]), ([40, 45, 35], [35, 40, 45]), ([35, 46, 19], [19, 35, 46]), ([19, 47], [19, 47])])
def darningref4_Choose.B5 : List Nat := [0, 1, 3, 7, 7, 31, 63, 127, 7, 511, 7, 7, 3079, 7175, 15367, 7, 65535, 131071, 262143, 524287, 1048575, 1048575, 4194303, 8388607, 16777215, 1048575, 67108863, 1048575, 1048575, 403701759, 940572671, 2014314495, 1048575, 8589934591, 17179869183, 34359738367, 68719476735, 68719476735, 274877906943, 549755813887, 1099511627775, 68719476735, 68719476735, 6665789243391, 15461882265599, 33054068310015, 70368744177663, 140737488355327, 281474976710655]
theorem darningref4_Choose.tab5 : rtab .any (opsOf Try.f74 5) = darningref4_Choose.T5 := by kernel_rfl
theorem darningref4_Choose.bits5 : waitsOk darningref4_Choose.T5.2 darningref4_Choose.B5 = true := by kernel_rfl
set_option maxHeartbeats 8000000 in
set_option maxRecDepth 100000 in
theorem darningref4_Choose.calls (k : Nat) (A0 : Option Addr) (c0 : Nat) (l0 : List (S35)) (a1 : Int) (A2 : Option Addr) (c2 : Nat) (l2 : List Int) (r : Int) (w : World) (hr0 : Kd.C k35 w A0 l0.length l0) (hc0 : l0.length ≤ c0) (hr2 : Kd.C (Kd.int .i64) w A2 l2.length l2) (hc2 : l2.length ≤ c2) (h : darningref4_Choose.f k l0 a1 l2 = some r) :
  Calls Try.prog 74 #[.slice A0 l0.length c0, .int .i64 a1, .slice A2 l2.length c2] w fun e w' => e = .returned (.int .i64 r) ∧ Below w.heap.size w w' := by
 have HR0 := Aside0.mk hr0
 have HC0 := Aside0.mk hc0
 clear hr0 hc0
 have HR2 := Aside0.mk hr2
 have HC2 := Aside0.mk hc2
 clear hr2 hc2
 have HB := Aside0.mk (Below.refl w.heap.size w)
 have H : ((darningref4_Fits.f k l0 a1).bind fun t345 => (darningref4_Choose.l0 k l0 l2 (-1) t345 (t345.length : Int) 0)) = some r := h
 clear h
 replace H := Option.bind_eq_some_iff.mp H
 obtain ⟨t345, A40, H⟩ := H
 replace H : (darningref4_Choose.l0 k l0 l2 (-1) t345 (t345.length : Int) 0) = some r := H
 have A4 := Aside0.mk A40
 clear A40
 have H' := Aside0.mk H
 clear H
 go_enter Try.func74, Try.ntmps74
 go_wp2_with (first | ((with_reducible refine gate_callee (f := 88) rfl ?_); refine goesL_ (some 12) rfl rfl Try.func88 (by kernel_rfl) rfl #[.slice A0 l0.length c0, .int .i64 a1] rfl (by (try simp only [qj, qk, ql]); first | done | rfl | (simp only [qm, qn]; rfl)) ?_; (with_reducible refine (darningref4_Fits.calls k _ _ l0 a1 t345 _ ?side1 ?side2 A4.out).mono ?_); (case side1 => exact zc HR0.out); (case side2 => exact HC0.out); rintro e w5 ⟨v346, rfl, ho0, hb⟩; refine ⟨_, rfl, ?_⟩; have n0_ := Aside0.mk (Kd.R_lower ho0 (below_size (zB HB))); have n1_ := zb HB hb; clear HB; have HO347 := n0_; have HB := n1_; clear n0_ n1_; (try clear hb); (try clear ho0); obtain ⟨Ao6, co6, eo6⟩ := Kd.R_slice HO347.out; subst eo6))
 go_loopg [7, 14] k (fun kq v7 v14 w' => ∃ (x7_1 : Int) (x14_1 : Int), v7 = .int .i64 x7_1 ∧ v14 = .int .i64 x14_1 ∧ Aside0 (darningref4_Choose.l0 kq l0 l2 x7_1 t345 (t345.length : Int) x14_1 = some r) ∧ Aside0 (kq ≤ k) ∧ Aside0 (Kd.R (Kd.int .i64) 3 w' w.heap.size (fun _ => True) (.slice Ao6 t345.length co6) t345) ∧ Aside0 (Below w.heap.size w w'))
 case atStart => exact ⟨((-1)), (0), (by first | rfl | (simp; done) | (simp [*]; done)), (by first | rfl | (simp; done) | (simp [*]; done)), H', ⟨Nat.le_refl _⟩, ⟨zr HO347⟩, ⟨zB HB⟩⟩
 case round =>
  clear H'
  try clear c2
  try clear p2
  obtain ⟨x7_1, x14_1, rfl, rfl, HA, HK1, HO_12, HB⟩ := hrel
  cases gk with
  | zero => exact absurd HA.out (by simp [darningref4_Choose.l0])
  | succ k1 =>
   have H := HA.out
   clear HA
   simp only [darningref4_Choose.l0] at H
   by_cases c7 : x14_1 < (t345.length : Int)
   rotate_left
   ·
    rw [if_neg c7] at H
    have c7b0 : decide (x14_1 < (t345.length : Int)) = false := decide_eq_false c7
    clear c7
    obtain rfl := Option.some.inj H
    go_wp2
    go_ret
    exact ⟨by first | rfl | (simp [errW_none, errW_some] <;> rfl) | (simp [*, errW_none, errW_some] <;> rfl), zB HB⟩
   rw [if_pos c7] at H
   have c7b0 : decide (x14_1 < (t345.length : Int)) = true := decide_eq_true c7
   clear c7
   have HC8 := Aside0.mk H
   clear H
   go_upto_block 1 with (fail)
   go_cut [7] (fun v7 wc => ∃ (kq : Nat) (x7_7 : Int), v7 = .int .i64 x7_7 ∧ Aside0 (darningref4_Choose.j2 kq l0 l2 x7_7 t345 (t345.length : Int) x14_1 = some r) ∧ Aside0 (kq ≤ k1) ∧ Aside0 (Kd.R (Kd.int .i64) 3 wc w.heap.size (fun _ => True) (.slice Ao6 t345.length co6) t345) ∧ Aside0 (Below w.heap.size w wc))
   case first =>
    have H := HC8.out
    clear HC8
    by_cases c9 : 0 ≤ x14_1
    rotate_left
    ·
     rw [if_neg c9] at H
     exact absurd H (by simp)
    rw [if_pos c9] at H
    have c9b0 : decide (0 ≤ x14_1) = true := decide_eq_true c9
    clear c9
    (first | rw [c9b0] | (simp only [i64_w, i32_w]; rw [c9b0]) | skip)
    by_cases c10 : x14_1 < (t345.length : Int)
    rotate_left
    ·
     rw [if_neg c10] at H
     exact absurd H (by simp)
    rw [if_pos c10] at H
    have c10b0 : decide (x14_1 < (t345.length : Int)) = true := decide_eq_true c10
    clear c10
    have HC11 := Aside0.mk H
    clear H
    have p348 : 0 ≤ (x14_1 : Int) := zu
    have q348 : x14_1 < (t345.length : Int) := zu
    obtain ⟨ad348, e348, hx348_0⟩ := Kd.at_int (Kd.R_reads' HO_12.out).2.2 x14_1 p348 q348
    cases e348
    replace p348 := eq_true p348
    replace q348 := eq_true q348
    go_upto_region 5 with (fail)
    go_cut [66] (fun v66 wc => ∃ (kq : Nat) (x66_10 : Bool), v66 = .bool x66_10 ∧ Aside0 (darningref4_Choose.j1 kq l0 l2 x7_1 (rd t345 x14_1) t345 (t345.length : Int) x14_1 x66_10 = some r) ∧ Aside0 (kq ≤ k1) ∧ Aside0 (Kd.R (Kd.int .i64) 3 wc w.heap.size (fun _ => True) (.slice (some ad348) t345.length co6) t345) ∧ Aside0 (Below w.heap.size w wc))
    case first =>
     have H := HC11.out
     clear HC11
     by_cases c12 : x7_1 < 0
     ·
      rw [if_pos c12] at H
      have c12b0 : decide (x7_1 < 0) = true := decide_eq_true c12
      clear c12
      (first | rw [c12b0] | (simp only [i64_w, i32_w]; rw [c12b0]) | skip)
      have H' := Aside0.mk H
      clear H
      try go_wp2
      have n0_ := Aside0.mk (qc HO_12.out)
      have n1_ := Aside0.mk (qf HB.out)
      clear HO_12
      clear HB
      have HO_12 := n0_
      have HB := n1_
      clear n0_ n1_
      refine start_ (n := 49) (S := fun w' => True) (ds := []) (onA 49 0) (by kernel_rfl) rfl rfl trivial (fun hHeld => ?_); refine with_tabW darningref4_Choose.tab5 darningref4_Choose.bits5 (fun HT_ HW_ => ?_)
      generalize wr.drew = w13 at HO_12 HB hHeld ⊢
      refine pu 0 (some 18) (onA 49 1) HT_ (h := ?_)
      refine pu 1 (some 19) (onA 49 2) HT_ (h := ?_)
      refine pu 2 (some 20) (onA 49 3) HT_ (h := ?_)
      refine pn 3 (some 21) (onA 49 4) HT_ (h := ?_)
      refine pn 4 (some 22) (onA 49 5) HT_ (h := ?_)
      refine pn 5 (some 23) (onA 49 6) HT_ (h := ?_)
      refine pn 6 (some 24) (onA 49 7) HT_ (h := ?_)
      refine pn 7 (some 25) (onA 49 8) HT_ (h := ?_)
      refine pn 8 (some 26) (onA 49 9) HT_ (h := ?_)
      refine pn 9 (some 27) (onA 49 10) HT_ (h := ?_)
      refine pn 10 (some 28) (onA 49 11) HT_ (h := ?_)
      refine pn 11 (some 29) (onA 49 12) HT_ (h := ?_)
      refine pn 12 (some 30) (onA 49 13) HT_ (h := ?_)
      refine pn 13 (some 31) (onA 49 14) HT_ (h := ?_)
      refine pn 14 (some 32) (onA 49 15) HT_ (h := ?_)
      refine pn 15 (some 33) (onA 49 16) HT_ (h := ?_)
      refine pn 16 (some 34) (onA 49 17) HT_ (h := ?_)
      refine pn 17 (some 35) (onA 49 18) HT_ (h := ?_)
      refine pu 18 (some 36) (onA 49 19) HT_ (h := ?_)
      refine pu 19 (some 37) (onA 49 20) HT_ (h := ?_)
      refine pn 20 (some 38) (onA 49 21) HT_ (h := ?_)
      refine pn 21 (some 39) (onA 49 22) HT_ (h := ?_)
      refine pn 22 (some 40) (onA 49 23) HT_ (h := ?_)
      refine pn 23 (some 41) (onA 49 24) HT_ (h := ?_)
      refine pn 24 (some 42) (onA 49 25) HT_ (h := ?_)
      refine pn 25 (some 43) (onA 49 26) HT_ (h := ?_)
      refine pn 26 (some 44) (onA 49 27) HT_ (h := ?_)
      refine pn 27 (some 45) (onA 49 28) HT_ (h := ?_)
      refine pn 28 (some 46) (onA 49 29) HT_ (h := ?_)
      refine pn 29 (some 47) (onA 49 30) HT_ (h := ?_)
      refine pn 30 (some 48) (onA 49 31) HT_ (h := ?_)
      refine pn 31 (some 49) (onA 49 32) HT_ (h := ?_)
      refine pn 32 (some 50) (onA 49 33) HT_ (h := ?_)
      refine pn 33 (some 51) (onA 49 34) HT_ (h := ?_)
      refine pn 34 (some 52) (onA 49 35) HT_ (h := ?_)
      refine pn 35 (some 53) (onA 49 36) HT_ (h := ?_)
      refine pn 36 (some 54) (onA 49 37) HT_ (h := ?_)
      refine pn 37 (some 55) (onA 49 38) HT_ (h := ?_)
      refine pn 38 (some 56) (onA 49 39) HT_ (h := ?_)
      refine pn 39 (some 57) (onA 49 40) HT_ (h := ?_)
      refine pn 40 (some 58) (onA 49 41) HT_ (h := ?_)
      refine pn 41 (some 59) (onA 49 42) HT_ (h := ?_)
      refine pn 42 (some 60) (onA 49 43) HT_ (h := ?_)
      refine pn 43 (some 61) (onA 49 44) HT_ (h := ?_)
      refine pn 44 (some 62) (onA 49 45) HT_ (h := ?_)
      refine pn 45 (some 63) (onA 49 46) HT_ (h := ?_)
      refine pn 46 (some 64) (onA 49 47) HT_ (h := ?_)
      refine pn 47 (some 65) (onA 49 48) HT_ (h := ?_)
      refine pu 48 (some 66) (onA 49 49) HT_ (h := ?_)
      refine done_ (done_of HT_.out (by kernel_rfl)) ?_
      try go_wp2
      go_meet
      case rel => exact ⟨_, (true), (by first | rfl | (simp; done) | (simp [*]; done)), H', ⟨by have := HK1.out; first | omega | exact Nat.le_refl _⟩, ⟨zr HO_12⟩, ⟨zB HB⟩⟩
     rw [if_neg c12] at H
     have c12b0 : decide (x7_1 < 0) = false := decide_eq_false c12
     clear c12
     (first | rw [c12b0] | (simp only [i64_w, i32_w]; rw [c12b0]) | skip)
     by_cases c14 : 0 ≤ (rd t345 x14_1)
     rotate_left
     ·
      rw [if_neg c14] at H
      exact absurd H (by simp)
     rw [if_pos c14] at H
     have c14b0 : decide (0 ≤ (rd t345 x14_1)) = true := decide_eq_true c14
     clear c14
     by_cases c15 : (rd t345 x14_1) < (l0.length : Int)
     rotate_left
     ·
      rw [if_neg c15] at H
      exact absurd H (by simp)
     rw [if_pos c15] at H
     have c15b0 : decide ((rd t345 x14_1) < (l0.length : Int)) = true := decide_eq_true c15
     clear c15
     replace H := Option.bind_eq_some_iff.mp H
     obtain ⟨t350, A160, H⟩ := H
     replace H : (if 0 ≤ x7_1 then (if x7_1 < (l0.length : Int) then ((darningref4_countAt.f ((rd_T35 l0 x7_1).f0) l2).bind fun t352 => (if t350 < t352 then (darningref4_Choose.j1 k1 l0 l2 x7_1 (rd t345 x14_1) t345 (t345.length : Int) x14_1 true) else ((darningref4_countAt.f ((rd_T35 l0 (rd t345 x14_1)).f0) l2).bind fun t354 => ((darningref4_countAt.f ((rd_T35 l0 x7_1).f0) l2).bind fun t356 => (if t354 = t356 then (darningref4_Choose.j1 k1 l0 l2 x7_1 (rd t345 x14_1) t345 (t345.length : Int) x14_1 (decide (((rd_T35 l0 (rd t345 x14_1)).f0) < ((rd_T35 l0 x7_1).f0)))) else (darningref4_Choose.j1 k1 l0 l2 x7_1 (rd t345 x14_1) t345 (t345.length : Int) x14_1 false)))))) else (none)) else (none)) = some r := H
     have A16 := Aside0.mk A160
     clear A160
     by_cases c17 : 0 ≤ x7_1
     rotate_left
     ·
      rw [if_neg c17] at H
      exact absurd H (by simp)
     rw [if_pos c17] at H
     have c17b0 : decide (0 ≤ x7_1) = true := decide_eq_true c17
     clear c17
     by_cases c18 : x7_1 < (l0.length : Int)
     rotate_left
     ·
      rw [if_neg c18] at H
      exact absurd H (by simp)
     rw [if_pos c18] at H
     have c18b0 : decide (x7_1 < (l0.length : Int)) = true := decide_eq_true c18
     clear c18
     replace H := Option.bind_eq_some_iff.mp H
     obtain ⟨t352, A190, H⟩ := H
     replace H : (if t350 < t352 then (darningref4_Choose.j1 k1 l0 l2 x7_1 (rd t345 x14_1) t345 (t345.length : Int) x14_1 true) else ((darningref4_countAt.f ((rd_T35 l0 (rd t345 x14_1)).f0) l2).bind fun t354 => ((darningref4_countAt.f ((rd_T35 l0 x7_1).f0) l2).bind fun t356 => (if t354 = t356 then (darningref4_Choose.j1 k1 l0 l2 x7_1 (rd t345 x14_1) t345 (t345.length : Int) x14_1 (decide (((rd_T35 l0 (rd t345 x14_1)).f0) < ((rd_T35 l0 x7_1).f0)))) else (darningref4_Choose.j1 k1 l0 l2 x7_1 (rd t345 x14_1) t345 (t345.length : Int) x14_1 false))))) = some r := H
     have A19 := Aside0.mk A190
     clear A190
     by_cases c20 : t350 < t352
     ·
      rw [if_pos c20] at H
      have c20b0 : decide (t350 < t352) = true := decide_eq_true c20
      clear c20
      have H' := Aside0.mk H
      clear H
      try go_wp2
      have n0_ := Aside0.mk (qc HO_12.out)
      have n1_ := Aside0.mk (qf HB.out)
      clear HO_12
      clear HB
      have HO_12 := n0_
      have HB := n1_
      clear n0_ n1_
      have p349 : 0 ≤ ((rd t345 x14_1) : Int) := zu
      have q349 : (rd t345 x14_1) < (l0.length : Int) := zu
      obtain ⟨ad349, e349, hx349_0, hx349_1, hx349_2⟩ := at_T35 HR0.out (rd t345 x14_1) p349 q349
      have hw349_2 := hx349_2
      have hw349_1 := hx349_1
      have hw349_0 := hx349_0
      cases e349
      replace hx349_0 := zw HB hx349_0
      replace hx349_1 := zw HB hx349_1
      replace hx349_2 := zw HB hx349_2
      replace p349 := eq_true p349
      replace q349 := eq_true q349
      have p351 : 0 ≤ (x7_1 : Int) := zu
      have q351 : x7_1 < (l0.length : Int) := zu
      obtain ⟨ad351, e351, hx351_0, hx351_1, hx351_2⟩ := at_T35 HR0.out x7_1 p351 q351
      have hw351_2 := hx351_2
      have hw351_1 := hx351_1
      have hw351_0 := hx351_0
      obtain rfl : ad349 = ad351 := (by injection e351)
      replace hx351_0 := zw HB hx351_0
      replace hx351_1 := zw HB hx351_1
      replace hx351_2 := zw HB hx351_2
      replace p351 := eq_true p351
      replace q351 := eq_true q351
      refine start_ (n := 49) (S := fun w' => w'.cell? (ad349.add (((rd t345 x14_1)).toNat * 3)) = some (.int .i64 ((rd_T35 l0 (rd t345 x14_1)).f0)) ∧ w'.cell? ⟨(ad349.add (((rd t345 x14_1)).toNat * 3)).block, (ad349.add (((rd t345 x14_1)).toNat * 3)).off + 1, none⟩ = some (.int .i64 ((rd_T35 l0 (rd t345 x14_1)).f1)) ∧ w'.cell? ⟨(ad349.add (((rd t345 x14_1)).toNat * 3)).block, (ad349.add (((rd t345 x14_1)).toNat * 3)).off + 2, none⟩ = some (.bool ((rd_T35 l0 (rd t345 x14_1)).f2)) ∧ w'.cell? (ad349.add ((x7_1).toNat * 3)) = some (.int .i64 ((rd_T35 l0 x7_1).f0)) ∧ w'.cell? ⟨(ad349.add ((x7_1).toNat * 3)).block, (ad349.add ((x7_1).toNat * 3)).off + 1, none⟩ = some (.int .i64 ((rd_T35 l0 x7_1).f1)) ∧ w'.cell? ⟨(ad349.add ((x7_1).toNat * 3)).block, (ad349.add ((x7_1).toNat * 3)).off + 2, none⟩ = some (.bool ((rd_T35 l0 x7_1).f2))) (ds := []) (onA 49 0) (by kernel_rfl) rfl rfl ⟨(zw HB hw349_0), (zw HB hw349_1), (zw HB hw349_2), (zw HB hw351_0), (zw HB hw351_1), (zw HB hw351_2)⟩ (fun hHeld => ?_); refine with_tabW darningref4_Choose.tab5 darningref4_Choose.bits5 (fun HT_ HW_ => ?_)
      generalize wr.drew = w21 at HO_12 HB hx349_0 hx349_1 hx349_2 hx351_0 hx351_1 hx351_2 hHeld ⊢
      refine pu 0 (some 18) (onA 49 1) HT_ (h := ?_)
      refine pu 1 (some 19) (onA 49 2) HT_ (h := ?_)
      refine pu 2 (some 20) (onA 49 3) HT_ (h := ?_)
      refine pu 3 (some 21) (onA 49 4) HT_ (h := ?_)
      refine pu 4 (some 22) (onA 49 5) HT_ (h := ?_)
      refine pu 5 (some 23) (onA 49 6) HT_ (h := ?_)
      refine pu 6 (some 24) (onA 49 7) HT_ (h := ?_)
      refine pu 8 (some 26) #[tt_,tt_,tt_,tt_,tt_,tt_,tt_,ff_,tt_,ff_,ff_,ff_,ff_,ff_,ff_,ff_,ff_,ff_,ff_,ff_,ff_,ff_,ff_,ff_,ff_,ff_,ff_,ff_,ff_,ff_,ff_,ff_,ff_,ff_,ff_,ff_,ff_,ff_,ff_,ff_,ff_,ff_,ff_,ff_,ff_,ff_,ff_,ff_,ff_] HT_ (h := ?_)
      refine pu 10 (some 28) #[tt_,tt_,tt_,tt_,tt_,tt_,tt_,ff_,tt_,ff_,tt_,ff_,ff_,ff_,ff_,ff_,ff_,ff_,ff_,ff_,ff_,ff_,ff_,ff_,ff_,ff_,ff_,ff_,ff_,ff_,ff_,ff_,ff_,ff_,ff_,ff_,ff_,ff_,ff_,ff_,ff_,ff_,ff_,ff_,ff_,ff_,ff_,ff_,ff_] HT_ (h := ?_)
      refine pu 11 (some 29) #[tt_,tt_,tt_,tt_,tt_,tt_,tt_,ff_,tt_,ff_,tt_,tt_,ff_,ff_,ff_,ff_,ff_,ff_,ff_,ff_,ff_,ff_,ff_,ff_,ff_,ff_,ff_,ff_,ff_,ff_,ff_,ff_,ff_,ff_,ff_,ff_,ff_,ff_,ff_,ff_,ff_,ff_,ff_,ff_,ff_,ff_,ff_,ff_,ff_] HT_ (h := ?_)
      refine pu 12 (some 30) #[tt_,tt_,tt_,tt_,tt_,tt_,tt_,ff_,tt_,ff_,tt_,tt_,tt_,ff_,ff_,ff_,ff_,ff_,ff_,ff_,ff_,ff_,ff_,ff_,ff_,ff_,ff_,ff_,ff_,ff_,ff_,ff_,ff_,ff_,ff_,ff_,ff_,ff_,ff_,ff_,ff_,ff_,ff_,ff_,ff_,ff_,ff_,ff_,ff_] HT_ (h := ?_)
      refine pu 13 (some 31) #[tt_,tt_,tt_,tt_,tt_,tt_,tt_,ff_,tt_,ff_,tt_,tt_,tt_,tt_,ff_,ff_,ff_,ff_,ff_,ff_,ff_,ff_,ff_,ff_,ff_,ff_,ff_,ff_,ff_,ff_,ff_,ff_,ff_,ff_,ff_,ff_,ff_,ff_,ff_,ff_,ff_,ff_,ff_,ff_,ff_,ff_,ff_,ff_,ff_] HT_ (h := ?_)
      refine pu 15 (some 33) #[tt_,tt_,tt_,tt_,tt_,tt_,tt_,ff_,tt_,ff_,tt_,tt_,tt_,tt_,ff_,tt_,ff_,ff_,ff_,ff_,ff_,ff_,ff_,ff_,ff_,ff_,ff_,ff_,ff_,ff_,ff_,ff_,ff_,ff_,ff_,ff_,ff_,ff_,ff_,ff_,ff_,ff_,ff_,ff_,ff_,ff_,ff_,ff_,ff_] HT_ (h := ?_)
      refine take_ (i := 7) (N := some 25) (v := ?_) (a' := ?_) #[tt_,tt_,tt_,tt_,tt_,tt_,tt_,tt_,tt_,ff_,tt_,tt_,tt_,tt_,ff_,tt_,ff_,ff_,ff_,ff_,ff_,ff_,ff_,ff_,ff_,ff_,ff_,ff_,ff_,ff_,ff_,ff_,ff_,ff_,ff_,ff_,ff_,ff_,ff_,ff_,ff_,ff_,ff_,ff_,ff_,ff_,ff_,ff_,ff_] rfl rfl (take_ofW HT_.out HW_.out (by kernel_rfl)) (fun _ _ _ h => h) (Or.inl ⟨by rfl, ?_⟩) hHeld ?_ ?_
      rotate_left
      ·
       rintro w' ⟨s0, s1, s2, s3, s4, s5⟩
       go_simp
       with_reducible rfl
      rotate_left
      ·
       simp only [Act.put, qg, qh, qi, i64_w, i32_w]
       rfl
      refine take_ (i := 14) (N := some 32) (v := ?_) (a' := ?_) #[tt_,tt_,tt_,tt_,tt_,tt_,tt_,tt_,tt_,ff_,tt_,tt_,tt_,tt_,tt_,tt_,ff_,ff_,ff_,ff_,ff_,ff_,ff_,ff_,ff_,ff_,ff_,ff_,ff_,ff_,ff_,ff_,ff_,ff_,ff_,ff_,ff_,ff_,ff_,ff_,ff_,ff_,ff_,ff_,ff_,ff_,ff_,ff_,ff_] rfl rfl (take_ofW HT_.out HW_.out (by kernel_rfl)) (fun _ _ _ h => h) (Or.inl ⟨by rfl, ?_⟩) hHeld ?_ ?_
      rotate_left
      ·
       rintro w' ⟨s0, s1, s2, s3, s4, s5⟩
       go_simp
       with_reducible rfl
      rotate_left
      ·
       simp only [Act.put, qg, qh, qi, i64_w, i32_w]
       rfl
      refine one_ (i := 9) (N := some 27) (onA 49 16) rfl rfl (one_of HT_.out (by kernel_rfl)) (by decide) (fun K hK => ?_)
      refine goes_ Try.func89 (by kernel_rfl) rfl #[.int .i64 ((rd_T35 l0 (rd t345 x14_1)).f0), .slice A2 l2.length c2] (by rfl) rfl rfl (by (try simp only [qj, qk, ql]); first | done | rfl | (simp only [qm, qn]; rfl)) ?_
      with_reducible refine (darningref4_countAt.calls ((rd_T35 l0 (rd t345 x14_1)).f0) _ _ l2 t350 _ ?side1 ?side2 A16.out).mono ?_
      (case side1 => exact zc (Kd.C_below HR2.out HB.out))
      (case side2 => exact HC2.out)
      rintro e w' ⟨rfl, ⟨nd, rfl⟩⟩
      refine ⟨_, rfl, ?_⟩
      refine hK.out _ _ ⟨(zw HB hw349_0), (zw HB hw349_1), (zw HB hw349_2), (zw HB hw351_0), (zw HB hw351_1), (zw HB hw351_2)⟩ (fun hHeld => ?_)
      clear hK K
      refine norm_ (a' := ?_) ?_ ?_
      rotate_left
      ·
       show Act.put _ (some 27) _ = _
       simp only [Act.put, qg, qh, qi, i64_w, i32_w]
       rfl
      refine one_ (i := 16) (N := some 34) (onA 49 17) rfl rfl (one_of HT_.out (by kernel_rfl)) (by decide) (fun K hK => ?_)
      refine goes_ Try.func89 (by kernel_rfl) rfl #[.int .i64 ((rd_T35 l0 x7_1).f0), .slice A2 l2.length c2] (by rfl) rfl rfl (by (try simp only [qj, qk, ql]); first | done | rfl | (simp only [qm, qn]; rfl)) ?_
      with_reducible refine (darningref4_countAt.calls ((rd_T35 l0 x7_1).f0) _ _ l2 t352 _ ?side1 ?side2 A19.out).mono ?_
      (case side1 => exact zc (Kd.C_below HR2.out (zB HB)))
      (case side2 => exact HC2.out)
      rintro e w' ⟨rfl, ⟨nd, rfl⟩⟩
      refine ⟨_, rfl, ?_⟩
      refine hK.out _ _ ⟨(zw HB hw349_0), (zw HB hw349_1), (zw HB hw349_2), (zw HB hw351_0), (zw HB hw351_1), (zw HB hw351_2)⟩ (fun hHeld => ?_)
      clear hK K
      refine norm_ (a' := ?_) ?_ ?_
      rotate_left
      ·
       show Act.put _ (some 34) _ = _
       simp only [Act.put, qg, qh, qi, i64_w, i32_w]
       rfl
      refine pu 17 (some 35) (onA 49 18) HT_ (h := ?_)
      refine pu 18 (some 36) (onA 49 19) HT_ (h := ?_)
      refine pu 19 (some 37) (onA 49 20) HT_ (h := ?_)
      refine pn 20 (some 38) (onA 49 21) HT_ (h := ?_)
      refine pn 21 (some 39) (onA 49 22) HT_ (h := ?_)
      refine pn 22 (some 40) (onA 49 23) HT_ (h := ?_)
      refine pn 23 (some 41) (onA 49 24) HT_ (h := ?_)
      refine pn 24 (some 42) (onA 49 25) HT_ (h := ?_)
      refine pn 25 (some 43) (onA 49 26) HT_ (h := ?_)
      refine pn 26 (some 44) (onA 49 27) HT_ (h := ?_)
      refine pn 27 (some 45) (onA 49 28) HT_ (h := ?_)
      refine pn 28 (some 46) (onA 49 29) HT_ (h := ?_)
      refine pn 29 (some 47) (onA 49 30) HT_ (h := ?_)
      refine pn 30 (some 48) (onA 49 31) HT_ (h := ?_)
      refine pn 31 (some 49) (onA 49 32) HT_ (h := ?_)
      refine pn 32 (some 50) (onA 49 33) HT_ (h := ?_)
      refine pn 33 (some 51) (onA 49 34) HT_ (h := ?_)
      refine pn 34 (some 52) (onA 49 35) HT_ (h := ?_)
      refine pn 35 (some 53) (onA 49 36) HT_ (h := ?_)
      refine pn 36 (some 54) (onA 49 37) HT_ (h := ?_)
      refine pn 37 (some 55) (onA 49 38) HT_ (h := ?_)
      refine pn 38 (some 56) (onA 49 39) HT_ (h := ?_)
      refine pn 39 (some 57) (onA 49 40) HT_ (h := ?_)
      refine pn 40 (some 58) (onA 49 41) HT_ (h := ?_)
      refine pn 41 (some 59) (onA 49 42) HT_ (h := ?_)
      refine pn 42 (some 60) (onA 49 43) HT_ (h := ?_)
      refine pn 43 (some 61) (onA 49 44) HT_ (h := ?_)
      refine pn 44 (some 62) (onA 49 45) HT_ (h := ?_)
      refine pn 45 (some 63) (onA 49 46) HT_ (h := ?_)
      refine pn 46 (some 64) (onA 49 47) HT_ (h := ?_)
      refine pn 47 (some 65) (onA 49 48) HT_ (h := ?_)
      refine pu 48 (some 66) (onA 49 49) HT_ (h := ?_)
      refine done_ (done_of HT_.out (by kernel_rfl)) ?_
      try go_wp2
      go_meet
      case rel => exact ⟨_, (true), (by first | rfl | (simp; done) | (simp [*]; done)), H', ⟨by have := HK1.out; first | omega | exact Nat.le_refl _⟩, ⟨zr HO_12⟩, ⟨zB HB⟩⟩
     rw [if_neg c20] at H
     have c20b0 : decide (t350 < t352) = false := decide_eq_false c20
     clear c20
     replace H := Option.bind_eq_some_iff.mp H
     obtain ⟨t354, A220, H⟩ := H
     replace H : ((darningref4_countAt.f ((rd_T35 l0 x7_1).f0) l2).bind fun t356 => (if t354 = t356 then (darningref4_Choose.j1 k1 l0 l2 x7_1 (rd t345 x14_1) t345 (t345.length : Int) x14_1 (decide (((rd_T35 l0 (rd t345 x14_1)).f0) < ((rd_T35 l0 x7_1).f0)))) else (darningref4_Choose.j1 k1 l0 l2 x7_1 (rd t345 x14_1) t345 (t345.length : Int) x14_1 false))) = some r := H
     have A22 := Aside0.mk A220
     clear A220
     replace H := Option.bind_eq_some_iff.mp H
     obtain ⟨t356, A230, H⟩ := H
     replace H : (if t354 = t356 then (darningref4_Choose.j1 k1 l0 l2 x7_1 (rd t345 x14_1) t345 (t345.length : Int) x14_1 (decide (((rd_T35 l0 (rd t345 x14_1)).f0) < ((rd_T35 l0 x7_1).f0)))) else (darningref4_Choose.j1 k1 l0 l2 x7_1 (rd t345 x14_1) t345 (t345.length : Int) x14_1 false)) = some r := H
     have A23 := Aside0.mk A230
     clear A230
     by_cases c24 : t354 = t356
     rotate_left
     ·
      rw [if_neg c24] at H
      have c24b0 : (t354 == t356) = false := beq_eq_false_iff_ne.mpr c24
      have c24b1 : (t354 != t356) = true := bne_iff_ne.mpr c24
      have H' := Aside0.mk H
      clear H
      try go_wp2
      have n0_ := Aside0.mk (qc HO_12.out)
      have n1_ := Aside0.mk (qf HB.out)
      clear HO_12
      clear HB
      have HO_12 := n0_
      have HB := n1_
      clear n0_ n1_
      have p349 : 0 ≤ ((rd t345 x14_1) : Int) := zu
      have q349 : (rd t345 x14_1) < (l0.length : Int) := zu
      obtain ⟨ad349, e349, hx349_0, hx349_1, hx349_2⟩ := at_T35 HR0.out (rd t345 x14_1) p349 q349
      have hw349_2 := hx349_2
      have hw349_1 := hx349_1
      have hw349_0 := hx349_0
      cases e349
      replace hx349_0 := zw HB hx349_0
      replace hx349_1 := zw HB hx349_1
      replace hx349_2 := zw HB hx349_2
      replace p349 := eq_true p349
      replace q349 := eq_true q349
      have p351 : 0 ≤ (x7_1 : Int) := zu
      have q351 : x7_1 < (l0.length : Int) := zu
      obtain ⟨ad351, e351, hx351_0, hx351_1, hx351_2⟩ := at_T35 HR0.out x7_1 p351 q351
      have hw351_2 := hx351_2
      have hw351_1 := hx351_1
      have hw351_0 := hx351_0
      obtain rfl : ad349 = ad351 := (by injection e351)
      replace hx351_0 := zw HB hx351_0
      replace hx351_1 := zw HB hx351_1
      replace hx351_2 := zw HB hx351_2
      replace p351 := eq_true p351
      replace q351 := eq_true q351
      have p353 : 0 ≤ ((rd t345 x14_1) : Int) := zu
      have q353 : (rd t345 x14_1) < (l0.length : Int) := zu
      obtain ⟨ad353, e353, hx353_0, hx353_1, hx353_2⟩ := at_T35 HR0.out (rd t345 x14_1) p353 q353
      have hw353_2 := hx353_2
      have hw353_1 := hx353_1
      have hw353_0 := hx353_0
      obtain rfl : ad349 = ad353 := (by injection e353)
      replace hx353_0 := zw HB hx353_0
      replace hx353_1 := zw HB hx353_1
      replace hx353_2 := zw HB hx353_2
      replace p353 := eq_true p353
      replace q353 := eq_true q353
      have p355 : 0 ≤ (x7_1 : Int) := zu
      have q355 : x7_1 < (l0.length : Int) := zu
      obtain ⟨ad355, e355, hx355_0, hx355_1, hx355_2⟩ := at_T35 HR0.out x7_1 p355 q355
      have hw355_2 := hx355_2
      have hw355_1 := hx355_1
      have hw355_0 := hx355_0
      obtain rfl : ad349 = ad355 := (by injection e355)
      replace hx355_0 := zw HB hx355_0
      replace hx355_1 := zw HB hx355_1
      replace hx355_2 := zw HB hx355_2
      replace p355 := eq_true p355
      replace q355 := eq_true q355
      refine start_ (n := 49) (S := fun w' => w'.cell? (ad349.add (((rd t345 x14_1)).toNat * 3)) = some (.int .i64 ((rd_T35 l0 (rd t345 x14_1)).f0)) ∧ w'.cell? ⟨(ad349.add (((rd t345 x14_1)).toNat * 3)).block, (ad349.add (((rd t345 x14_1)).toNat * 3)).off + 1, none⟩ = some (.int .i64 ((rd_T35 l0 (rd t345 x14_1)).f1)) ∧ w'.cell? ⟨(ad349.add (((rd t345 x14_1)).toNat * 3)).block, (ad349.add (((rd t345 x14_1)).toNat * 3)).off + 2, none⟩ = some (.bool ((rd_T35 l0 (rd t345 x14_1)).f2)) ∧ w'.cell? (ad349.add ((x7_1).toNat * 3)) = some (.int .i64 ((rd_T35 l0 x7_1).f0)) ∧ w'.cell? ⟨(ad349.add ((x7_1).toNat * 3)).block, (ad349.add ((x7_1).toNat * 3)).off + 1, none⟩ = some (.int .i64 ((rd_T35 l0 x7_1).f1)) ∧ w'.cell? ⟨(ad349.add ((x7_1).toNat * 3)).block, (ad349.add ((x7_1).toNat * 3)).off + 2, none⟩ = some (.bool ((rd_T35 l0 x7_1).f2)) ∧ w'.cell? (ad349.add (((rd t345 x14_1)).toNat * 3)) = some (.int .i64 ((rd_T35 l0 (rd t345 x14_1)).f0)) ∧ w'.cell? ⟨(ad349.add (((rd t345 x14_1)).toNat * 3)).block, (ad349.add (((rd t345 x14_1)).toNat * 3)).off + 1, none⟩ = some (.int .i64 ((rd_T35 l0 (rd t345 x14_1)).f1)) ∧ w'.cell? ⟨(ad349.add (((rd t345 x14_1)).toNat * 3)).block, (ad349.add (((rd t345 x14_1)).toNat * 3)).off + 2, none⟩ = some (.bool ((rd_T35 l0 (rd t345 x14_1)).f2)) ∧ w'.cell? (ad349.add ((x7_1).toNat * 3)) = some (.int .i64 ((rd_T35 l0 x7_1).f0)) ∧ w'.cell? ⟨(ad349.add ((x7_1).toNat * 3)).block, (ad349.add ((x7_1).toNat * 3)).off + 1, none⟩ = some (.int .i64 ((rd_T35 l0 x7_1).f1)) ∧ w'.cell? ⟨(ad349.add ((x7_1).toNat * 3)).block, (ad349.add ((x7_1).toNat * 3)).off + 2, none⟩ = some (.bool ((rd_T35 l0 x7_1).f2))) (ds := []) (onA 49 0) (by kernel_rfl) rfl rfl ⟨(zw HB hw349_0), (zw HB hw349_1), (zw HB hw349_2), (zw HB hw351_0), (zw HB hw351_1), (zw HB hw351_2), (zw HB hw353_0), (zw HB hw353_1), (zw HB hw353_2), (zw HB hw355_0), (zw HB hw355_1), (zw HB hw355_2)⟩ (fun hHeld => ?_); refine with_tabW darningref4_Choose.tab5 darningref4_Choose.bits5 (fun HT_ HW_ => ?_)
      generalize wr.drew = w26 at HO_12 HB hx349_0 hx349_1 hx349_2 hx351_0 hx351_1 hx351_2 hx353_0 hx353_1 hx353_2 hx355_0 hx355_1 hx355_2 hHeld ⊢
      refine pu 0 (some 18) (onA 49 1) HT_ (h := ?_)
      refine pu 1 (some 19) (onA 49 2) HT_ (h := ?_)
      refine pu 2 (some 20) (onA 49 3) HT_ (h := ?_)
      refine pu 3 (some 21) (onA 49 4) HT_ (h := ?_)
      refine pu 4 (some 22) (onA 49 5) HT_ (h := ?_)
      refine pu 5 (some 23) (onA 49 6) HT_ (h := ?_)
      refine pu 6 (some 24) (onA 49 7) HT_ (h := ?_)
      refine pu 8 (some 26) #[tt_,tt_,tt_,tt_,tt_,tt_,tt_,ff_,tt_,ff_,ff_,ff_,ff_,ff_,ff_,ff_,ff_,ff_,ff_,ff_,ff_,ff_,ff_,ff_,ff_,ff_,ff_,ff_,ff_,ff_,ff_,ff_,ff_,ff_,ff_,ff_,ff_,ff_,ff_,ff_,ff_,ff_,ff_,ff_,ff_,ff_,ff_,ff_,ff_] HT_ (h := ?_)
      refine pu 10 (some 28) #[tt_,tt_,tt_,tt_,tt_,tt_,tt_,ff_,tt_,ff_,tt_,ff_,ff_,ff_,ff_,ff_,ff_,ff_,ff_,ff_,ff_,ff_,ff_,ff_,ff_,ff_,ff_,ff_,ff_,ff_,ff_,ff_,ff_,ff_,ff_,ff_,ff_,ff_,ff_,ff_,ff_,ff_,ff_,ff_,ff_,ff_,ff_,ff_,ff_] HT_ (h := ?_)
      refine pu 11 (some 29) #[tt_,tt_,tt_,tt_,tt_,tt_,tt_,ff_,tt_,ff_,tt_,tt_,ff_,ff_,ff_,ff_,ff_,ff_,ff_,ff_,ff_,ff_,ff_,ff_,ff_,ff_,ff_,ff_,ff_,ff_,ff_,ff_,ff_,ff_,ff_,ff_,ff_,ff_,ff_,ff_,ff_,ff_,ff_,ff_,ff_,ff_,ff_,ff_,ff_] HT_ (h := ?_)
      refine pu 12 (some 30) #[tt_,tt_,tt_,tt_,tt_,tt_,tt_,ff_,tt_,ff_,tt_,tt_,tt_,ff_,ff_,ff_,ff_,ff_,ff_,ff_,ff_,ff_,ff_,ff_,ff_,ff_,ff_,ff_,ff_,ff_,ff_,ff_,ff_,ff_,ff_,ff_,ff_,ff_,ff_,ff_,ff_,ff_,ff_,ff_,ff_,ff_,ff_,ff_,ff_] HT_ (h := ?_)
      refine pu 13 (some 31) #[tt_,tt_,tt_,tt_,tt_,tt_,tt_,ff_,tt_,ff_,tt_,tt_,tt_,tt_,ff_,ff_,ff_,ff_,ff_,ff_,ff_,ff_,ff_,ff_,ff_,ff_,ff_,ff_,ff_,ff_,ff_,ff_,ff_,ff_,ff_,ff_,ff_,ff_,ff_,ff_,ff_,ff_,ff_,ff_,ff_,ff_,ff_,ff_,ff_] HT_ (h := ?_)
      refine pu 15 (some 33) #[tt_,tt_,tt_,tt_,tt_,tt_,tt_,ff_,tt_,ff_,tt_,tt_,tt_,tt_,ff_,tt_,ff_,ff_,ff_,ff_,ff_,ff_,ff_,ff_,ff_,ff_,ff_,ff_,ff_,ff_,ff_,ff_,ff_,ff_,ff_,ff_,ff_,ff_,ff_,ff_,ff_,ff_,ff_,ff_,ff_,ff_,ff_,ff_,ff_] HT_ (h := ?_)
      refine take_ (i := 7) (N := some 25) (v := ?_) (a' := ?_) #[tt_,tt_,tt_,tt_,tt_,tt_,tt_,tt_,tt_,ff_,tt_,tt_,tt_,tt_,ff_,tt_,ff_,ff_,ff_,ff_,ff_,ff_,ff_,ff_,ff_,ff_,ff_,ff_,ff_,ff_,ff_,ff_,ff_,ff_,ff_,ff_,ff_,ff_,ff_,ff_,ff_,ff_,ff_,ff_,ff_,ff_,ff_,ff_,ff_] rfl rfl (take_ofW HT_.out HW_.out (by kernel_rfl)) (fun _ _ _ h => h) (Or.inl ⟨by rfl, ?_⟩) hHeld ?_ ?_
      rotate_left
      ·
       rintro w' ⟨s0, s1, s2, s3, s4, s5, s6, s7, s8, s9, s10, s11⟩
       go_simp
       with_reducible rfl
      rotate_left
      ·
       simp only [Act.put, qg, qh, qi, i64_w, i32_w]
       rfl
      refine take_ (i := 14) (N := some 32) (v := ?_) (a' := ?_) #[tt_,tt_,tt_,tt_,tt_,tt_,tt_,tt_,tt_,ff_,tt_,tt_,tt_,tt_,tt_,tt_,ff_,ff_,ff_,ff_,ff_,ff_,ff_,ff_,ff_,ff_,ff_,ff_,ff_,ff_,ff_,ff_,ff_,ff_,ff_,ff_,ff_,ff_,ff_,ff_,ff_,ff_,ff_,ff_,ff_,ff_,ff_,ff_,ff_] rfl rfl (take_ofW HT_.out HW_.out (by kernel_rfl)) (fun _ _ _ h => h) (Or.inl ⟨by rfl, ?_⟩) hHeld ?_ ?_
      rotate_left
      ·
       rintro w' ⟨s0, s1, s2, s3, s4, s5, s6, s7, s8, s9, s10, s11⟩
       go_simp
       with_reducible rfl
      rotate_left
      ·
       simp only [Act.put, qg, qh, qi, i64_w, i32_w]
       rfl
      refine one_ (i := 9) (N := some 27) (onA 49 16) rfl rfl (one_of HT_.out (by kernel_rfl)) (by decide) (fun K hK => ?_)
      refine goes_ Try.func89 (by kernel_rfl) rfl #[.int .i64 ((rd_T35 l0 (rd t345 x14_1)).f0), .slice A2 l2.length c2] (by rfl) rfl rfl (by (try simp only [qj, qk, ql]); first | done | rfl | (simp only [qm, qn]; rfl)) ?_
      with_reducible refine (darningref4_countAt.calls ((rd_T35 l0 (rd t345 x14_1)).f0) _ _ l2 t350 _ ?side1 ?side2 A16.out).mono ?_
      (case side1 => exact zc (Kd.C_below HR2.out HB.out))
      (case side2 => exact HC2.out)
      rintro e w' ⟨rfl, ⟨nd, rfl⟩⟩
      refine ⟨_, rfl, ?_⟩
      refine hK.out _ _ ⟨(zw HB hw349_0), (zw HB hw349_1), (zw HB hw349_2), (zw HB hw351_0), (zw HB hw351_1), (zw HB hw351_2), (zw HB hw353_0), (zw HB hw353_1), (zw HB hw353_2), (zw HB hw355_0), (zw HB hw355_1), (zw HB hw355_2)⟩ (fun hHeld => ?_)
      clear hK K
      refine norm_ (a' := ?_) ?_ ?_
      rotate_left
      ·
       show Act.put _ (some 27) _ = _
       simp only [Act.put, qg, qh, qi, i64_w, i32_w]
       rfl
      refine one_ (i := 16) (N := some 34) (onA 49 17) rfl rfl (one_of HT_.out (by kernel_rfl)) (by decide) (fun K hK => ?_)
      refine goes_ Try.func89 (by kernel_rfl) rfl #[.int .i64 ((rd_T35 l0 x7_1).f0), .slice A2 l2.length c2] (by rfl) rfl rfl (by (try simp only [qj, qk, ql]); first | done | rfl | (simp only [qm, qn]; rfl)) ?_
      with_reducible refine (darningref4_countAt.calls ((rd_T35 l0 x7_1).f0) _ _ l2 t352 _ ?side1 ?side2 A19.out).mono ?_
      (case side1 => exact zc (Kd.C_below HR2.out (zB HB)))
      (case side2 => exact HC2.out)
      rintro e w' ⟨rfl, ⟨nd, rfl⟩⟩
      refine ⟨_, rfl, ?_⟩
      refine hK.out _ _ ⟨(zw HB hw349_0), (zw HB hw349_1), (zw HB hw349_2), (zw HB hw351_0), (zw HB hw351_1), (zw HB hw351_2), (zw HB hw353_0), (zw HB hw353_1), (zw HB hw353_2), (zw HB hw355_0), (zw HB hw355_1), (zw HB hw355_2)⟩ (fun hHeld => ?_)
      clear hK K
      refine norm_ (a' := ?_) ?_ ?_
      rotate_left
      ·
       show Act.put _ (some 34) _ = _
       simp only [Act.put, qg, qh, qi, i64_w, i32_w]
       rfl
      refine pu 17 (some 35) (onA 49 18) HT_ (h := ?_)
      refine pu 18 (some 36) (onA 49 19) HT_ (h := ?_)
      refine pu 19 (some 37) (onA 49 20) HT_ (h := ?_)
      refine pu 20 (some 38) (onA 49 21) HT_ (h := ?_)
      refine pu 21 (some 39) (onA 49 22) HT_ (h := ?_)
      refine pu 22 (some 40) (onA 49 23) HT_ (h := ?_)
      refine pu 23 (some 41) (onA 49 24) HT_ (h := ?_)
      refine pu 25 (some 43) #[tt_,tt_,tt_,tt_,tt_,tt_,tt_,tt_,tt_,tt_,tt_,tt_,tt_,tt_,tt_,tt_,tt_,tt_,tt_,tt_,tt_,tt_,tt_,tt_,ff_,tt_,ff_,ff_,ff_,ff_,ff_,ff_,ff_,ff_,ff_,ff_,ff_,ff_,ff_,ff_,ff_,ff_,ff_,ff_,ff_,ff_,ff_,ff_,ff_] HT_ (h := ?_)
      refine pu 27 (some 45) #[tt_,tt_,tt_,tt_,tt_,tt_,tt_,tt_,tt_,tt_,tt_,tt_,tt_,tt_,tt_,tt_,tt_,tt_,tt_,tt_,tt_,tt_,tt_,tt_,ff_,tt_,ff_,tt_,ff_,ff_,ff_,ff_,ff_,ff_,ff_,ff_,ff_,ff_,ff_,ff_,ff_,ff_,ff_,ff_,ff_,ff_,ff_,ff_,ff_] HT_ (h := ?_)
      refine pu 28 (some 46) #[tt_,tt_,tt_,tt_,tt_,tt_,tt_,tt_,tt_,tt_,tt_,tt_,tt_,tt_,tt_,tt_,tt_,tt_,tt_,tt_,tt_,tt_,tt_,tt_,ff_,tt_,ff_,tt_,tt_,ff_,ff_,ff_,ff_,ff_,ff_,ff_,ff_,ff_,ff_,ff_,ff_,ff_,ff_,ff_,ff_,ff_,ff_,ff_,ff_] HT_ (h := ?_)
      refine pu 29 (some 47) #[tt_,tt_,tt_,tt_,tt_,tt_,tt_,tt_,tt_,tt_,tt_,tt_,tt_,tt_,tt_,tt_,tt_,tt_,tt_,tt_,tt_,tt_,tt_,tt_,ff_,tt_,ff_,tt_,tt_,tt_,ff_,ff_,ff_,ff_,ff_,ff_,ff_,ff_,ff_,ff_,ff_,ff_,ff_,ff_,ff_,ff_,ff_,ff_,ff_] HT_ (h := ?_)
      refine pu 30 (some 48) #[tt_,tt_,tt_,tt_,tt_,tt_,tt_,tt_,tt_,tt_,tt_,tt_,tt_,tt_,tt_,tt_,tt_,tt_,tt_,tt_,tt_,tt_,tt_,tt_,ff_,tt_,ff_,tt_,tt_,tt_,tt_,ff_,ff_,ff_,ff_,ff_,ff_,ff_,ff_,ff_,ff_,ff_,ff_,ff_,ff_,ff_,ff_,ff_,ff_] HT_ (h := ?_)
      refine pu 32 (some 50) #[tt_,tt_,tt_,tt_,tt_,tt_,tt_,tt_,tt_,tt_,tt_,tt_,tt_,tt_,tt_,tt_,tt_,tt_,tt_,tt_,tt_,tt_,tt_,tt_,ff_,tt_,ff_,tt_,tt_,tt_,tt_,ff_,tt_,ff_,ff_,ff_,ff_,ff_,ff_,ff_,ff_,ff_,ff_,ff_,ff_,ff_,ff_,ff_,ff_] HT_ (h := ?_)
      refine take_ (i := 24) (N := some 42) (v := ?_) (a' := ?_) #[tt_,tt_,tt_,tt_,tt_,tt_,tt_,tt_,tt_,tt_,tt_,tt_,tt_,tt_,tt_,tt_,tt_,tt_,tt_,tt_,tt_,tt_,tt_,tt_,tt_,tt_,ff_,tt_,tt_,tt_,tt_,ff_,tt_,ff_,ff_,ff_,ff_,ff_,ff_,ff_,ff_,ff_,ff_,ff_,ff_,ff_,ff_,ff_,ff_] rfl rfl (take_ofW HT_.out HW_.out (by kernel_rfl)) (fun _ _ _ h => h) (Or.inl ⟨by rfl, ?_⟩) hHeld ?_ ?_
      rotate_left
      ·
       rintro w' ⟨s0, s1, s2, s3, s4, s5, s6, s7, s8, s9, s10, s11⟩
       go_simp
       with_reducible rfl
      rotate_left
      ·
       simp only [Act.put, qg, qh, qi, i64_w, i32_w]
       rfl
      refine take_ (i := 31) (N := some 49) (v := ?_) (a' := ?_) #[tt_,tt_,tt_,tt_,tt_,tt_,tt_,tt_,tt_,tt_,tt_,tt_,tt_,tt_,tt_,tt_,tt_,tt_,tt_,tt_,tt_,tt_,tt_,tt_,tt_,tt_,ff_,tt_,tt_,tt_,tt_,tt_,tt_,ff_,ff_,ff_,ff_,ff_,ff_,ff_,ff_,ff_,ff_,ff_,ff_,ff_,ff_,ff_,ff_] rfl rfl (take_ofW HT_.out HW_.out (by kernel_rfl)) (fun _ _ _ h => h) (Or.inl ⟨by rfl, ?_⟩) hHeld ?_ ?_
      rotate_left
      ·
       rintro w' ⟨s0, s1, s2, s3, s4, s5, s6, s7, s8, s9, s10, s11⟩
       go_simp
       with_reducible rfl
      rotate_left
      ·
       simp only [Act.put, qg, qh, qi, i64_w, i32_w]
       rfl
      refine one_ (i := 26) (N := some 44) (onA 49 33) rfl rfl (one_of HT_.out (by kernel_rfl)) (by decide) (fun K hK => ?_)
      refine goes_ Try.func89 (by kernel_rfl) rfl #[.int .i64 ((rd_T35 l0 (rd t345 x14_1)).f0), .slice A2 l2.length c2] (by rfl) rfl rfl (by (try simp only [qj, qk, ql]); first | done | rfl | (simp only [qm, qn]; rfl)) ?_
      with_reducible refine (darningref4_countAt.calls ((rd_T35 l0 (rd t345 x14_1)).f0) _ _ l2 t354 _ ?side1 ?side2 A22.out).mono ?_
      (case side1 => exact zc (Kd.C_below HR2.out (zB HB)))
      (case side2 => exact HC2.out)
      rintro e w' ⟨rfl, ⟨nd, rfl⟩⟩
      refine ⟨_, rfl, ?_⟩
      refine hK.out _ _ ⟨(zw HB hw349_0), (zw HB hw349_1), (zw HB hw349_2), (zw HB hw351_0), (zw HB hw351_1), (zw HB hw351_2), (zw HB hw353_0), (zw HB hw353_1), (zw HB hw353_2), (zw HB hw355_0), (zw HB hw355_1), (zw HB hw355_2)⟩ (fun hHeld => ?_)
      clear hK K
      refine norm_ (a' := ?_) ?_ ?_
      rotate_left
      ·
       show Act.put _ (some 44) _ = _
       simp only [Act.put, qg, qh, qi, i64_w, i32_w]
       rfl
      refine one_ (i := 33) (N := some 51) (onA 49 34) rfl rfl (one_of HT_.out (by kernel_rfl)) (by decide) (fun K hK => ?_)
      refine goes_ Try.func89 (by kernel_rfl) rfl #[.int .i64 ((rd_T35 l0 x7_1).f0), .slice A2 l2.length c2] (by rfl) rfl rfl (by (try simp only [qj, qk, ql]); first | done | rfl | (simp only [qm, qn]; rfl)) ?_
      with_reducible refine (darningref4_countAt.calls ((rd_T35 l0 x7_1).f0) _ _ l2 t356 _ ?side1 ?side2 A23.out).mono ?_
      (case side1 => exact zc (Kd.C_below HR2.out (zB HB)))
      (case side2 => exact HC2.out)
      rintro e w' ⟨rfl, ⟨nd, rfl⟩⟩
      refine ⟨_, rfl, ?_⟩
      refine hK.out _ _ ⟨(zw HB hw349_0), (zw HB hw349_1), (zw HB hw349_2), (zw HB hw351_0), (zw HB hw351_1), (zw HB hw351_2), (zw HB hw353_0), (zw HB hw353_1), (zw HB hw353_2), (zw HB hw355_0), (zw HB hw355_1), (zw HB hw355_2)⟩ (fun hHeld => ?_)
      clear hK K
      refine norm_ (a' := ?_) ?_ ?_
      rotate_left
      ·
       show Act.put _ (some 51) _ = _
       simp only [Act.put, qg, qh, qi, i64_w, i32_w]
       rfl
      refine pu 34 (some 52) (onA 49 35) HT_ (h := ?_)
      refine pu 35 (some 53) (onA 49 36) HT_ (h := ?_)
      refine pn 36 (some 54) (onA 49 37) HT_ (h := ?_)
      refine pn 37 (some 55) (onA 49 38) HT_ (h := ?_)
      refine pn 38 (some 56) (onA 49 39) HT_ (h := ?_)
      refine pn 39 (some 57) (onA 49 40) HT_ (h := ?_)
      refine pn 40 (some 58) (onA 49 41) HT_ (h := ?_)
      refine pn 41 (some 59) (onA 49 42) HT_ (h := ?_)
      refine pn 42 (some 60) (onA 49 43) HT_ (h := ?_)
      refine pn 43 (some 61) (onA 49 44) HT_ (h := ?_)
      refine pn 44 (some 62) (onA 49 45) HT_ (h := ?_)
      refine pn 45 (some 63) (onA 49 46) HT_ (h := ?_)
      refine pn 46 (some 64) (onA 49 47) HT_ (h := ?_)
      refine pu 47 (some 65) (onA 49 48) HT_ (h := ?_)
      refine pu 48 (some 66) (onA 49 49) HT_ (h := ?_)
      refine done_ (done_of HT_.out (by kernel_rfl)) ?_
      try go_wp2
      go_meet
      case rel => exact ⟨_, (false), (by first | rfl | (simp; done) | (simp [*]; done)), H', ⟨by have := HK1.out; first | omega | exact Nat.le_refl _⟩, ⟨zr HO_12⟩, ⟨zB HB⟩⟩
     rw [if_pos c24] at H
     have c24b0 : (t354 == t356) = true := beq_iff_eq.mpr c24
     have c24b1 : (t354 != t356) = false := bne_eq_false_iff_eq.mpr c24
     clear c24
     have H' := Aside0.mk H
     clear H
     try go_wp2
     have n0_ := Aside0.mk (qc HO_12.out)
     have n1_ := Aside0.mk (qf HB.out)
     clear HO_12
     clear HB
     have HO_12 := n0_
     have HB := n1_
     clear n0_ n1_
     have p349 : 0 ≤ ((rd t345 x14_1) : Int) := zu
     have q349 : (rd t345 x14_1) < (l0.length : Int) := zu
     obtain ⟨ad349, e349, hx349_0, hx349_1, hx349_2⟩ := at_T35 HR0.out (rd t345 x14_1) p349 q349
     have hw349_2 := hx349_2
     have hw349_1 := hx349_1
     have hw349_0 := hx349_0
     cases e349
     replace hx349_0 := zw HB hx349_0
     replace hx349_1 := zw HB hx349_1
     replace hx349_2 := zw HB hx349_2
     replace p349 := eq_true p349
     replace q349 := eq_true q349
     have p351 : 0 ≤ (x7_1 : Int) := zu
     have q351 : x7_1 < (l0.length : Int) := zu
     obtain ⟨ad351, e351, hx351_0, hx351_1, hx351_2⟩ := at_T35 HR0.out x7_1 p351 q351
     have hw351_2 := hx351_2
     have hw351_1 := hx351_1
     have hw351_0 := hx351_0
     obtain rfl : ad349 = ad351 := (by injection e351)
     replace hx351_0 := zw HB hx351_0
     replace hx351_1 := zw HB hx351_1
     replace hx351_2 := zw HB hx351_2
     replace p351 := eq_true p351
     replace q351 := eq_true q351
     have p353 : 0 ≤ ((rd t345 x14_1) : Int) := zu
     have q353 : (rd t345 x14_1) < (l0.length : Int) := zu
     obtain ⟨ad353, e353, hx353_0, hx353_1, hx353_2⟩ := at_T35 HR0.out (rd t345 x14_1) p353 q353
     have hw353_2 := hx353_2
     have hw353_1 := hx353_1
     have hw353_0 := hx353_0
     obtain rfl : ad349 = ad353 := (by injection e353)
     replace hx353_0 := zw HB hx353_0
     replace hx353_1 := zw HB hx353_1
     replace hx353_2 := zw HB hx353_2
     replace p353 := eq_true p353
     replace q353 := eq_true q353
     have p355 : 0 ≤ (x7_1 : Int) := zu
     have q355 : x7_1 < (l0.length : Int) := zu
     obtain ⟨ad355, e355, hx355_0, hx355_1, hx355_2⟩ := at_T35 HR0.out x7_1 p355 q355
     have hw355_2 := hx355_2
     have hw355_1 := hx355_1
     have hw355_0 := hx355_0
     obtain rfl : ad349 = ad355 := (by injection e355)
     replace hx355_0 := zw HB hx355_0
     replace hx355_1 := zw HB hx355_1
     replace hx355_2 := zw HB hx355_2
     replace p355 := eq_true p355
     replace q355 := eq_true q355
     have p357 : 0 ≤ ((rd t345 x14_1) : Int) := zu
     have q357 : (rd t345 x14_1) < (l0.length : Int) := zu
     obtain ⟨ad357, e357, hx357_0, hx357_1, hx357_2⟩ := at_T35 HR0.out (rd t345 x14_1) p357 q357
     have hw357_2 := hx357_2
     have hw357_1 := hx357_1
     have hw357_0 := hx357_0
     obtain rfl : ad349 = ad357 := (by injection e357)
     replace hx357_0 := zw HB hx357_0
     replace hx357_1 := zw HB hx357_1
     replace hx357_2 := zw HB hx357_2
     replace p357 := eq_true p357
     replace q357 := eq_true q357
     have p358 : 0 ≤ (x7_1 : Int) := zu
     have q358 : x7_1 < (l0.length : Int) := zu
     obtain ⟨ad358, e358, hx358_0, hx358_1, hx358_2⟩ := at_T35 HR0.out x7_1 p358 q358
     have hw358_2 := hx358_2
     have hw358_1 := hx358_1
     have hw358_0 := hx358_0
     obtain rfl : ad349 = ad358 := (by injection e358)
     replace hx358_0 := zw HB hx358_0
     replace hx358_1 := zw HB hx358_1
     replace hx358_2 := zw HB hx358_2
     replace p358 := eq_true p358
     replace q358 := eq_true q358
     refine start_ (n := 49) (S := fun w' => w'.cell? (ad349.add (((rd t345 x14_1)).toNat * 3)) = some (.int .i64 ((rd_T35 l0 (rd t345 x14_1)).f0)) ∧ w'.cell? ⟨(ad349.add (((rd t345 x14_1)).toNat * 3)).block, (ad349.add (((rd t345 x14_1)).toNat * 3)).off + 1, none⟩ = some (.int .i64 ((rd_T35 l0 (rd t345 x14_1)).f1)) ∧ w'.cell? ⟨(ad349.add (((rd t345 x14_1)).toNat * 3)).block, (ad349.add (((rd t345 x14_1)).toNat * 3)).off + 2, none⟩ = some (.bool ((rd_T35 l0 (rd t345 x14_1)).f2)) ∧ w'.cell? (ad349.add ((x7_1).toNat * 3)) = some (.int .i64 ((rd_T35 l0 x7_1).f0)) ∧ w'.cell? ⟨(ad349.add ((x7_1).toNat * 3)).block, (ad349.add ((x7_1).toNat * 3)).off + 1, none⟩ = some (.int .i64 ((rd_T35 l0 x7_1).f1)) ∧ w'.cell? ⟨(ad349.add ((x7_1).toNat * 3)).block, (ad349.add ((x7_1).toNat * 3)).off + 2, none⟩ = some (.bool ((rd_T35 l0 x7_1).f2)) ∧ w'.cell? (ad349.add (((rd t345 x14_1)).toNat * 3)) = some (.int .i64 ((rd_T35 l0 (rd t345 x14_1)).f0)) ∧ w'.cell? ⟨(ad349.add (((rd t345 x14_1)).toNat * 3)).block, (ad349.add (((rd t345 x14_1)).toNat * 3)).off + 1, none⟩ = some (.int .i64 ((rd_T35 l0 (rd t345 x14_1)).f1)) ∧ w'.cell? ⟨(ad349.add (((rd t345 x14_1)).toNat * 3)).block, (ad349.add (((rd t345 x14_1)).toNat * 3)).off + 2, none⟩ = some (.bool ((rd_T35 l0 (rd t345 x14_1)).f2)) ∧ w'.cell? (ad349.add ((x7_1).toNat * 3)) = some (.int .i64 ((rd_T35 l0 x7_1).f0)) ∧ w'.cell? ⟨(ad349.add ((x7_1).toNat * 3)).block, (ad349.add ((x7_1).toNat * 3)).off + 1, none⟩ = some (.int .i64 ((rd_T35 l0 x7_1).f1)) ∧ w'.cell? ⟨(ad349.add ((x7_1).toNat * 3)).block, (ad349.add ((x7_1).toNat * 3)).off + 2, none⟩ = some (.bool ((rd_T35 l0 x7_1).f2)) ∧ w'.cell? (ad349.add (((rd t345 x14_1)).toNat * 3)) = some (.int .i64 ((rd_T35 l0 (rd t345 x14_1)).f0)) ∧ w'.cell? ⟨(ad349.add (((rd t345 x14_1)).toNat * 3)).block, (ad349.add (((rd t345 x14_1)).toNat * 3)).off + 1, none⟩ = some (.int .i64 ((rd_T35 l0 (rd t345 x14_1)).f1)) ∧ w'.cell? ⟨(ad349.add (((rd t345 x14_1)).toNat * 3)).block, (ad349.add (((rd t345 x14_1)).toNat * 3)).off + 2, none⟩ = some (.bool ((rd_T35 l0 (rd t345 x14_1)).f2)) ∧ w'.cell? (ad349.add ((x7_1).toNat * 3)) = some (.int .i64 ((rd_T35 l0 x7_1).f0)) ∧ w'.cell? ⟨(ad349.add ((x7_1).toNat * 3)).block, (ad349.add ((x7_1).toNat * 3)).off + 1, none⟩ = some (.int .i64 ((rd_T35 l0 x7_1).f1)) ∧ w'.cell? ⟨(ad349.add ((x7_1).toNat * 3)).block, (ad349.add ((x7_1).toNat * 3)).off + 2, none⟩ = some (.bool ((rd_T35 l0 x7_1).f2))) (ds := []) (onA 49 0) (by kernel_rfl) rfl rfl ⟨(zw HB hw349_0), (zw HB hw349_1), (zw HB hw349_2), (zw HB hw351_0), (zw HB hw351_1), (zw HB hw351_2), (zw HB hw353_0), (zw HB hw353_1), (zw HB hw353_2), (zw HB hw355_0), (zw HB hw355_1), (zw HB hw355_2), (zw HB hw357_0), (zw HB hw357_1), (zw HB hw357_2), (zw HB hw358_0), (zw HB hw358_1), (zw HB hw358_2)⟩ (fun hHeld => ?_); refine with_tabW darningref4_Choose.tab5 darningref4_Choose.bits5 (fun HT_ HW_ => ?_)
     generalize wr.drew = w25 at HO_12 HB hx349_0 hx349_1 hx349_2 hx351_0 hx351_1 hx351_2 hx353_0 hx353_1 hx353_2 hx355_0 hx355_1 hx355_2 hx357_0 hx357_1 hx357_2 hx358_0 hx358_1 hx358_2 hHeld ⊢
     refine pu 0 (some 18) (onA 49 1) HT_ (h := ?_)
     refine pu 1 (some 19) (onA 49 2) HT_ (h := ?_)
     refine pu 2 (some 20) (onA 49 3) HT_ (h := ?_)
     refine pu 3 (some 21) (onA 49 4) HT_ (h := ?_)
     refine pu 4 (some 22) (onA 49 5) HT_ (h := ?_)
     refine pu 5 (some 23) (onA 49 6) HT_ (h := ?_)
     refine pu 6 (some 24) (onA 49 7) HT_ (h := ?_)
     refine pu 8 (some 26) #[tt_,tt_,tt_,tt_,tt_,tt_,tt_,ff_,tt_,ff_,ff_,ff_,ff_,ff_,ff_,ff_,ff_,ff_,ff_,ff_,ff_,ff_,ff_,ff_,ff_,ff_,ff_,ff_,ff_,ff_,ff_,ff_,ff_,ff_,ff_,ff_,ff_,ff_,ff_,ff_,ff_,ff_,ff_,ff_,ff_,ff_,ff_,ff_,ff_] HT_ (h := ?_)
     refine pu 10 (some 28) #[tt_,tt_,tt_,tt_,tt_,tt_,tt_,ff_,tt_,ff_,tt_,ff_,ff_,ff_,ff_,ff_,ff_,ff_,ff_,ff_,ff_,ff_,ff_,ff_,ff_,ff_,ff_,ff_,ff_,ff_,ff_,ff_,ff_,ff_,ff_,ff_,ff_,ff_,ff_,ff_,ff_,ff_,ff_,ff_,ff_,ff_,ff_,ff_,ff_] HT_ (h := ?_)
     refine pu 11 (some 29) #[tt_,tt_,tt_,tt_,tt_,tt_,tt_,ff_,tt_,ff_,tt_,tt_,ff_,ff_,ff_,ff_,ff_,ff_,ff_,ff_,ff_,ff_,ff_,ff_,ff_,ff_,ff_,ff_,ff_,ff_,ff_,ff_,ff_,ff_,ff_,ff_,ff_,ff_,ff_,ff_,ff_,ff_,ff_,ff_,ff_,ff_,ff_,ff_,ff_] HT_ (h := ?_)
     refine pu 12 (some 30) #[tt_,tt_,tt_,tt_,tt_,tt_,tt_,ff_,tt_,ff_,tt_,tt_,tt_,ff_,ff_,ff_,ff_,ff_,ff_,ff_,ff_,ff_,ff_,ff_,ff_,ff_,ff_,ff_,ff_,ff_,ff_,ff_,ff_,ff_,ff_,ff_,ff_,ff_,ff_,ff_,ff_,ff_,ff_,ff_,ff_,ff_,ff_,ff_,ff_] HT_ (h := ?_)
     refine pu 13 (some 31) #[tt_,tt_,tt_,tt_,tt_,tt_,tt_,ff_,tt_,ff_,tt_,tt_,tt_,tt_,ff_,ff_,ff_,ff_,ff_,ff_,ff_,ff_,ff_,ff_,ff_,ff_,ff_,ff_,ff_,ff_,ff_,ff_,ff_,ff_,ff_,ff_,ff_,ff_,ff_,ff_,ff_,ff_,ff_,ff_,ff_,ff_,ff_,ff_,ff_] HT_ (h := ?_)
     refine pu 15 (some 33) #[tt_,tt_,tt_,tt_,tt_,tt_,tt_,ff_,tt_,ff_,tt_,tt_,tt_,tt_,ff_,tt_,ff_,ff_,ff_,ff_,ff_,ff_,ff_,ff_,ff_,ff_,ff_,ff_,ff_,ff_,ff_,ff_,ff_,ff_,ff_,ff_,ff_,ff_,ff_,ff_,ff_,ff_,ff_,ff_,ff_,ff_,ff_,ff_,ff_] HT_ (h := ?_)
     refine take_ (i := 7) (N := some 25) (v := ?_) (a' := ?_) #[tt_,tt_,tt_,tt_,tt_,tt_,tt_,tt_,tt_,ff_,tt_,tt_,tt_,tt_,ff_,tt_,ff_,ff_,ff_,ff_,ff_,ff_,ff_,ff_,ff_,ff_,ff_,ff_,ff_,ff_,ff_,ff_,ff_,ff_,ff_,ff_,ff_,ff_,ff_,ff_,ff_,ff_,ff_,ff_,ff_,ff_,ff_,ff_,ff_] rfl rfl (take_ofW HT_.out HW_.out (by kernel_rfl)) (fun _ _ _ h => h) (Or.inl ⟨by rfl, ?_⟩) hHeld ?_ ?_
     rotate_left
     ·
      rintro w' ⟨s0, s1, s2, s3, s4, s5, s6, s7, s8, s9, s10, s11, s12, s13, s14, s15, s16, s17⟩
      go_simp
      with_reducible rfl
     rotate_left
     ·
      simp only [Act.put, qg, qh, qi, i64_w, i32_w]
      rfl
     refine take_ (i := 14) (N := some 32) (v := ?_) (a' := ?_) #[tt_,tt_,tt_,tt_,tt_,tt_,tt_,tt_,tt_,ff_,tt_,tt_,tt_,tt_,tt_,tt_,ff_,ff_,ff_,ff_,ff_,ff_,ff_,ff_,ff_,ff_,ff_,ff_,ff_,ff_,ff_,ff_,ff_,ff_,ff_,ff_,ff_,ff_,ff_,ff_,ff_,ff_,ff_,ff_,ff_,ff_,ff_,ff_,ff_] rfl rfl (take_ofW HT_.out HW_.out (by kernel_rfl)) (fun _ _ _ h => h) (Or.inl ⟨by rfl, ?_⟩) hHeld ?_ ?_
     rotate_left
     ·
      rintro w' ⟨s0, s1, s2, s3, s4, s5, s6, s7, s8, s9, s10, s11, s12, s13, s14, s15, s16, s17⟩
      go_simp
      with_reducible rfl
     rotate_left
     ·
      simp only [Act.put, qg, qh, qi, i64_w, i32_w]
      rfl
     refine one_ (i := 9) (N := some 27) (onA 49 16) rfl rfl (one_of HT_.out (by kernel_rfl)) (by decide) (fun K hK => ?_)
     refine goes_ Try.func89 (by kernel_rfl) rfl #[.int .i64 ((rd_T35 l0 (rd t345 x14_1)).f0), .slice A2 l2.length c2] (by rfl) rfl rfl (by (try simp only [qj, qk, ql]); first | done | rfl | (simp only [qm, qn]; rfl)) ?_
     with_reducible refine (darningref4_countAt.calls ((rd_T35 l0 (rd t345 x14_1)).f0) _ _ l2 t350 _ ?side1 ?side2 A16.out).mono ?_
     (case side1 => exact zc (Kd.C_below HR2.out HB.out))
     (case side2 => exact HC2.out)
     rintro e w' ⟨rfl, ⟨nd, rfl⟩⟩
     refine ⟨_, rfl, ?_⟩
     refine hK.out _ _ ⟨(zw HB hw349_0), (zw HB hw349_1), (zw HB hw349_2), (zw HB hw351_0), (zw HB hw351_1), (zw HB hw351_2), (zw HB hw353_0), (zw HB hw353_1), (zw HB hw353_2), (zw HB hw355_0), (zw HB hw355_1), (zw HB hw355_2), (zw HB hw357_0), (zw HB hw357_1), (zw HB hw357_2), (zw HB hw358_0), (zw HB hw358_1), (zw HB hw358_2)⟩ (fun hHeld => ?_)
     clear hK K
     refine norm_ (a' := ?_) ?_ ?_
     rotate_left
     ·
      show Act.put _ (some 27) _ = _
      simp only [Act.put, qg, qh, qi, i64_w, i32_w]
      rfl
     refine one_ (i := 16) (N := some 34) (onA 49 17) rfl rfl (one_of HT_.out (by kernel_rfl)) (by decide) (fun K hK => ?_)
     refine goes_ Try.func89 (by kernel_rfl) rfl #[.int .i64 ((rd_T35 l0 x7_1).f0), .slice A2 l2.length c2] (by rfl) rfl rfl (by (try simp only [qj, qk, ql]); first | done | rfl | (simp only [qm, qn]; rfl)) ?_
     with_reducible refine (darningref4_countAt.calls ((rd_T35 l0 x7_1).f0) _ _ l2 t352 _ ?side1 ?side2 A19.out).mono ?_
     (case side1 => exact zc (Kd.C_below HR2.out (zB HB)))
     (case side2 => exact HC2.out)
     rintro e w' ⟨rfl, ⟨nd, rfl⟩⟩
     refine ⟨_, rfl, ?_⟩
     refine hK.out _ _ ⟨(zw HB hw349_0), (zw HB hw349_1), (zw HB hw349_2), (zw HB hw351_0), (zw HB hw351_1), (zw HB hw351_2), (zw HB hw353_0), (zw HB hw353_1), (zw HB hw353_2), (zw HB hw355_0), (zw HB hw355_1), (zw HB hw355_2), (zw HB hw357_0), (zw HB hw357_1), (zw HB hw357_2), (zw HB hw358_0), (zw HB hw358_1), (zw HB hw358_2)⟩ (fun hHeld => ?_)
     clear hK K
     refine norm_ (a' := ?_) ?_ ?_
     rotate_left
     ·
      show Act.put _ (some 34) _ = _
      simp only [Act.put, qg, qh, qi, i64_w, i32_w]
      rfl
     refine pu 17 (some 35) (onA 49 18) HT_ (h := ?_)
     refine pu 18 (some 36) (onA 49 19) HT_ (h := ?_)
     refine pu 19 (some 37) (onA 49 20) HT_ (h := ?_)
     refine pu 20 (some 38) (onA 49 21) HT_ (h := ?_)
     refine pu 21 (some 39) (onA 49 22) HT_ (h := ?_)
     refine pu 22 (some 40) (onA 49 23) HT_ (h := ?_)
     refine pu 23 (some 41) (onA 49 24) HT_ (h := ?_)
     refine pu 25 (some 43) #[tt_,tt_,tt_,tt_,tt_,tt_,tt_,tt_,tt_,tt_,tt_,tt_,tt_,tt_,tt_,tt_,tt_,tt_,tt_,tt_,tt_,tt_,tt_,tt_,ff_,tt_,ff_,ff_,ff_,ff_,ff_,ff_,ff_,ff_,ff_,ff_,ff_,ff_,ff_,ff_,ff_,ff_,ff_,ff_,ff_,ff_,ff_,ff_,ff_] HT_ (h := ?_)
     refine pu 27 (some 45) #[tt_,tt_,tt_,tt_,tt_,tt_,tt_,tt_,tt_,tt_,tt_,tt_,tt_,tt_,tt_,tt_,tt_,tt_,tt_,tt_,tt_,tt_,tt_,tt_,ff_,tt_,ff_,tt_,ff_,ff_,ff_,ff_,ff_,ff_,ff_,ff_,ff_,ff_,ff_,ff_,ff_,ff_,ff_,ff_,ff_,ff_,ff_,ff_,ff_] HT_ (h := ?_)
     refine pu 28 (some 46) #[tt_,tt_,tt_,tt_,tt_,tt_,tt_,tt_,tt_,tt_,tt_,tt_,tt_,tt_,tt_,tt_,tt_,tt_,tt_,tt_,tt_,tt_,tt_,tt_,ff_,tt_,ff_,tt_,tt_,ff_,ff_,ff_,ff_,ff_,ff_,ff_,ff_,ff_,ff_,ff_,ff_,ff_,ff_,ff_,ff_,ff_,ff_,ff_,ff_] HT_ (h := ?_)
     refine pu 29 (some 47) #[tt_,tt_,tt_,tt_,tt_,tt_,tt_,tt_,tt_,tt_,tt_,tt_,tt_,tt_,tt_,tt_,tt_,tt_,tt_,tt_,tt_,tt_,tt_,tt_,ff_,tt_,ff_,tt_,tt_,tt_,ff_,ff_,ff_,ff_,ff_,ff_,ff_,ff_,ff_,ff_,ff_,ff_,ff_,ff_,ff_,ff_,ff_,ff_,ff_] HT_ (h := ?_)
     refine pu 30 (some 48) #[tt_,tt_,tt_,tt_,tt_,tt_,tt_,tt_,tt_,tt_,tt_,tt_,tt_,tt_,tt_,tt_,tt_,tt_,tt_,tt_,tt_,tt_,tt_,tt_,ff_,tt_,ff_,tt_,tt_,tt_,tt_,ff_,ff_,ff_,ff_,ff_,ff_,ff_,ff_,ff_,ff_,ff_,ff_,ff_,ff_,ff_,ff_,ff_,ff_] HT_ (h := ?_)
     refine pu 32 (some 50) #[tt_,tt_,tt_,tt_,tt_,tt_,tt_,tt_,tt_,tt_,tt_,tt_,tt_,tt_,tt_,tt_,tt_,tt_,tt_,tt_,tt_,tt_,tt_,tt_,ff_,tt_,ff_,tt_,tt_,tt_,tt_,ff_,tt_,ff_,ff_,ff_,ff_,ff_,ff_,ff_,ff_,ff_,ff_,ff_,ff_,ff_,ff_,ff_,ff_] HT_ (h := ?_)
     refine take_ (i := 24) (N := some 42) (v := ?_) (a' := ?_) #[tt_,tt_,tt_,tt_,tt_,tt_,tt_,tt_,tt_,tt_,tt_,tt_,tt_,tt_,tt_,tt_,tt_,tt_,tt_,tt_,tt_,tt_,tt_,tt_,tt_,tt_,ff_,tt_,tt_,tt_,tt_,ff_,tt_,ff_,ff_,ff_,ff_,ff_,ff_,ff_,ff_,ff_,ff_,ff_,ff_,ff_,ff_,ff_,ff_] rfl rfl (take_ofW HT_.out HW_.out (by kernel_rfl)) (fun _ _ _ h => h) (Or.inl ⟨by rfl, ?_⟩) hHeld ?_ ?_
     rotate_left
     ·
      rintro w' ⟨s0, s1, s2, s3, s4, s5, s6, s7, s8, s9, s10, s11, s12, s13, s14, s15, s16, s17⟩
      go_simp
      with_reducible rfl
     rotate_left
     ·
      simp only [Act.put, qg, qh, qi, i64_w, i32_w]
      rfl
     refine take_ (i := 31) (N := some 49) (v := ?_) (a' := ?_) #[tt_,tt_,tt_,tt_,tt_,tt_,tt_,tt_,tt_,tt_,tt_,tt_,tt_,tt_,tt_,tt_,tt_,tt_,tt_,tt_,tt_,tt_,tt_,tt_,tt_,tt_,ff_,tt_,tt_,tt_,tt_,tt_,tt_,ff_,ff_,ff_,ff_,ff_,ff_,ff_,ff_,ff_,ff_,ff_,ff_,ff_,ff_,ff_,ff_] rfl rfl (take_ofW HT_.out HW_.out (by kernel_rfl)) (fun _ _ _ h => h) (Or.inl ⟨by rfl, ?_⟩) hHeld ?_ ?_
     rotate_left
     ·
      rintro w' ⟨s0, s1, s2, s3, s4, s5, s6, s7, s8, s9, s10, s11, s12, s13, s14, s15, s16, s17⟩
      go_simp
      with_reducible rfl
     rotate_left
     ·
      simp only [Act.put, qg, qh, qi, i64_w, i32_w]
      rfl
     refine one_ (i := 26) (N := some 44) (onA 49 33) rfl rfl (one_of HT_.out (by kernel_rfl)) (by decide) (fun K hK => ?_)
     refine goes_ Try.func89 (by kernel_rfl) rfl #[.int .i64 ((rd_T35 l0 (rd t345 x14_1)).f0), .slice A2 l2.length c2] (by rfl) rfl rfl (by (try simp only [qj, qk, ql]); first | done | rfl | (simp only [qm, qn]; rfl)) ?_
     with_reducible refine (darningref4_countAt.calls ((rd_T35 l0 (rd t345 x14_1)).f0) _ _ l2 t354 _ ?side1 ?side2 A22.out).mono ?_
     (case side1 => exact zc (Kd.C_below HR2.out (zB HB)))
     (case side2 => exact HC2.out)
     rintro e w' ⟨rfl, ⟨nd, rfl⟩⟩
     refine ⟨_, rfl, ?_⟩
     refine hK.out _ _ ⟨(zw HB hw349_0), (zw HB hw349_1), (zw HB hw349_2), (zw HB hw351_0), (zw HB hw351_1), (zw HB hw351_2), (zw HB hw353_0), (zw HB hw353_1), (zw HB hw353_2), (zw HB hw355_0), (zw HB hw355_1), (zw HB hw355_2), (zw HB hw357_0), (zw HB hw357_1), (zw HB hw357_2), (zw HB hw358_0), (zw HB hw358_1), (zw HB hw358_2)⟩ (fun hHeld => ?_)
     clear hK K
     refine norm_ (a' := ?_) ?_ ?_
     rotate_left
     ·
      show Act.put _ (some 44) _ = _
      simp only [Act.put, qg, qh, qi, i64_w, i32_w]
      rfl
     refine one_ (i := 33) (N := some 51) (onA 49 34) rfl rfl (one_of HT_.out (by kernel_rfl)) (by decide) (fun K hK => ?_)
     refine goes_ Try.func89 (by kernel_rfl) rfl #[.int .i64 ((rd_T35 l0 x7_1).f0), .slice A2 l2.length c2] (by rfl) rfl rfl (by (try simp only [qj, qk, ql]); first | done | rfl | (simp only [qm, qn]; rfl)) ?_
     with_reducible refine (darningref4_countAt.calls ((rd_T35 l0 x7_1).f0) _ _ l2 t356 _ ?side1 ?side2 A23.out).mono ?_
     (case side1 => exact zc (Kd.C_below HR2.out (zB HB)))
     (case side2 => exact HC2.out)
     rintro e w' ⟨rfl, ⟨nd, rfl⟩⟩
     refine ⟨_, rfl, ?_⟩
     refine hK.out _ _ ⟨(zw HB hw349_0), (zw HB hw349_1), (zw HB hw349_2), (zw HB hw351_0), (zw HB hw351_1), (zw HB hw351_2), (zw HB hw353_0), (zw HB hw353_1), (zw HB hw353_2), (zw HB hw355_0), (zw HB hw355_1), (zw HB hw355_2), (zw HB hw357_0), (zw HB hw357_1), (zw HB hw357_2), (zw HB hw358_0), (zw HB hw358_1), (zw HB hw358_2)⟩ (fun hHeld => ?_)
     clear hK K
     refine norm_ (a' := ?_) ?_ ?_
     rotate_left
     ·
      show Act.put _ (some 51) _ = _
      simp only [Act.put, qg, qh, qi, i64_w, i32_w]
      rfl
     refine pu 34 (some 52) (onA 49 35) HT_ (h := ?_)
     refine pu 35 (some 53) (onA 49 36) HT_ (h := ?_)
     refine pu 36 (some 54) (onA 49 37) HT_ (h := ?_)
     refine pu 37 (some 55) (onA 49 38) HT_ (h := ?_)
     refine pu 38 (some 56) (onA 49 39) HT_ (h := ?_)
     refine pu 39 (some 57) (onA 49 40) HT_ (h := ?_)
     refine pu 41 (some 59) #[tt_,tt_,tt_,tt_,tt_,tt_,tt_,tt_,tt_,tt_,tt_,tt_,tt_,tt_,tt_,tt_,tt_,tt_,tt_,tt_,tt_,tt_,tt_,tt_,tt_,tt_,tt_,tt_,tt_,tt_,tt_,tt_,tt_,tt_,tt_,tt_,tt_,tt_,tt_,tt_,ff_,tt_,ff_,ff_,ff_,ff_,ff_,ff_,ff_] HT_ (h := ?_)
     refine pu 42 (some 60) #[tt_,tt_,tt_,tt_,tt_,tt_,tt_,tt_,tt_,tt_,tt_,tt_,tt_,tt_,tt_,tt_,tt_,tt_,tt_,tt_,tt_,tt_,tt_,tt_,tt_,tt_,tt_,tt_,tt_,tt_,tt_,tt_,tt_,tt_,tt_,tt_,tt_,tt_,tt_,tt_,ff_,tt_,tt_,ff_,ff_,ff_,ff_,ff_,ff_] HT_ (h := ?_)
     refine pu 43 (some 61) #[tt_,tt_,tt_,tt_,tt_,tt_,tt_,tt_,tt_,tt_,tt_,tt_,tt_,tt_,tt_,tt_,tt_,tt_,tt_,tt_,tt_,tt_,tt_,tt_,tt_,tt_,tt_,tt_,tt_,tt_,tt_,tt_,tt_,tt_,tt_,tt_,tt_,tt_,tt_,tt_,ff_,tt_,tt_,tt_,ff_,ff_,ff_,ff_,ff_] HT_ (h := ?_)
     refine pu 44 (some 62) #[tt_,tt_,tt_,tt_,tt_,tt_,tt_,tt_,tt_,tt_,tt_,tt_,tt_,tt_,tt_,tt_,tt_,tt_,tt_,tt_,tt_,tt_,tt_,tt_,tt_,tt_,tt_,tt_,tt_,tt_,tt_,tt_,tt_,tt_,tt_,tt_,tt_,tt_,tt_,tt_,ff_,tt_,tt_,tt_,tt_,ff_,ff_,ff_,ff_] HT_ (h := ?_)
     refine take_ (i := 40) (N := some 58) (v := ?_) (a' := ?_) (onA 49 45) rfl rfl (take_ofW HT_.out HW_.out (by kernel_rfl)) (fun _ _ _ h => h) (Or.inl ⟨by rfl, ?_⟩) hHeld ?_ ?_
     rotate_left
     ·
      rintro w' ⟨s0, s1, s2, s3, s4, s5, s6, s7, s8, s9, s10, s11, s12, s13, s14, s15, s16, s17⟩
      go_simp
      with_reducible rfl
     rotate_left
     ·
      simp only [Act.put, qg, qh, qi, i64_w, i32_w]
      rfl
     refine take_ (i := 45) (N := some 63) (v := ?_) (a' := ?_) (onA 49 46) rfl rfl (take_ofW HT_.out HW_.out (by kernel_rfl)) (fun _ _ _ h => h) (Or.inl ⟨by rfl, ?_⟩) hHeld ?_ ?_
     rotate_left
     ·
      rintro w' ⟨s0, s1, s2, s3, s4, s5, s6, s7, s8, s9, s10, s11, s12, s13, s14, s15, s16, s17⟩
      go_simp
      with_reducible rfl
     rotate_left
     ·
      simp only [Act.put, qg, qh, qi, i64_w, i32_w]
      rfl
     refine pu 46 (some 64) (onA 49 47) HT_ (h := ?_)
     refine pu 47 (some 65) (onA 49 48) HT_ (h := ?_)
     refine pu 48 (some 66) (onA 49 49) HT_ (h := ?_)
     refine done_ (done_of HT_.out (by kernel_rfl)) ?_
     try go_wp2
     go_meet
     case rel => exact ⟨_, (decide (((rd_T35 l0 (rd t345 x14_1)).f0) < ((rd_T35 l0 x7_1).f0))), (by first | rfl | (simp; done) | (simp [*]; done)), H', ⟨by have := HK1.out; first | omega | exact Nat.le_refl _⟩, ⟨zr HO_12⟩, ⟨zB HB⟩⟩
    clear HC11
    try clear c1
    try clear c2
    try clear p2
    try clear p3
    try clear q3
    try clear hx3
    try clear c8
    try clear c14
    try clear c15
    try clear c17
    try clear c18
    try clear c24
    try clear c24b0
    try clear c24b1
    try clear hx349_0
    try clear hx349_1
    try clear hx349_2
    try clear hx351_0
    try clear hx351_1
    try clear hx351_2
    try clear hx353_0
    try clear hx353_1
    try clear hx353_2
    try clear hx355_0
    try clear hx355_1
    try clear hx355_2
    try clear p349
    try clear p351
    try clear p353
    try clear p355
    try clear q349
    try clear q351
    try clear q353
    try clear q355
    obtain ⟨kq, x66_10, rfl, HA, HJ10, HO_12, HB⟩ := hcut
    cases kq with
    | zero => exact absurd HA.out (by simp [darningref4_Choose.j1])
    | succ kj10 =>
     have H := HA.out
     clear HA
     simp only [darningref4_Choose.j1] at H
     by_cases c27 : x66_10 = true
     ·
      subst c27
      have H1 : (darningref4_Choose.j2 kj10 l0 l2 (rd t345 x14_1) t345 (t345.length : Int) x14_1) = some r := by rw [if_pos rfl] at H; exact H
      clear H
      have H := H1
      clear H1
      have H' := Aside0.mk H
      clear H
      go_wp2
      go_meet
      case rel => exact ⟨_, ((rd t345 x14_1)), (by first | rfl | (simp; done) | (simp [*]; done)), H', ⟨by have := HK1.out; have := HJ10.out; first | omega | exact Nat.le_refl _⟩, ⟨zr HO_12⟩, ⟨zB HB⟩⟩
     replace c27 := Bool.eq_false_iff.mpr c27
     subst c27
     have H1 : (darningref4_Choose.j2 kj10 l0 l2 x7_1 t345 (t345.length : Int) x14_1) = some r := by rw [if_neg (show ¬ (false = true) by decide)] at H; exact H
     clear H
     have H := H1
     clear H1
     have H' := Aside0.mk H
     clear H
     go_wp2
     go_meet
     case rel => exact ⟨_, (x7_1), (by first | rfl | (simp; done) | (simp [*]; done)), H', ⟨by have := HK1.out; have := HJ10.out; first | omega | exact Nat.le_refl _⟩, ⟨zr HO_12⟩, ⟨zB HB⟩⟩
   clear HC8
   try clear c1
   try clear c2
   try clear p2
   try clear p3
   try clear q3
   try clear hx3
   try clear c8
   try clear c9
   try clear c10
   try clear c14
   try clear c15
   try clear c17
   try clear c18
   try clear c24
   try clear c24b0
   try clear c24b1
   try clear c27
   try clear hx349_0
   try clear hx349_1
   try clear hx349_2
   try clear hx351_0
   try clear hx351_1
   try clear hx351_2
   try clear hx353_0
   try clear hx353_1
   try clear hx353_2
   try clear hx355_0
   try clear hx355_1
   try clear hx355_2
   try clear p2
   try clear p3
   try clear p349
   try clear p351
   try clear p353
   try clear p355
   try clear q3
   try clear q349
   try clear q351
   try clear q353
   try clear q355
   obtain ⟨kq, x7_7, rfl, HA, HJ7, HO_12, HB⟩ := hcut
   cases kq with
   | zero => exact absurd HA.out (by simp [darningref4_Choose.j2])
   | succ kj7 =>
    have H := HA.out
    clear HA
    simp only [darningref4_Choose.j2] at H
    have H' := Aside0.mk H
    clear H
    go_wp2
    go_roundg kj7
    case measure => have := HK1.out; have := HJ7.out; omega
    case rel => exact ⟨(x7_7), (wrap64 (x14_1 + 1)), (by first | rfl | (simp; done) | (simp [*]; done)), (by first | rfl | (simp; done) | (simp [*]; done)), H', ⟨by have := HK1.out; have := HJ7.out; omega⟩, ⟨zr HO_12⟩, ⟨zB HB⟩⟩

end Go.Proofs.Ytglekonhdjploaa.XImageForms
