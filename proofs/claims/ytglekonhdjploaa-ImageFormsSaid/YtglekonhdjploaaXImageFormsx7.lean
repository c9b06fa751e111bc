-- printed by wip/xprint.py
import Derived.Test.YtglekonhdjploaaXImageFormsx0
import Derived.Test.YtglekonhdjploaaXImageFormsx5
import Derived.Test.YtglekonhdjploaaXImageFormsx6
namespace Go.Proofs.Ytglekonhdjploaa.XImageForms
open Go.RowKit Go.Proofs.YtglekonhdjploaaW.PrintWords Go.Proofs.YtglekonhdjploaaW.PrintLast Go.Proofs.YtglekonhdjploaaW.PrintMore
attribute [local go_sem] max2_int min2_int max_two min_two max_three min_three max_four min_four
set_option linter.unusedVariables false
set_option linter.unusedSimpArgs false

/-! ### fit_Choose: function 70 -/
mutual
def fit_Choose.l0 : Nat → List (S35) → List Int → Int → List Int → Int → Int → Option (Int)
 | 0, _, _, _, _, _, _ => none
 | k + 1, x0, x2, x7, x14, x15, x16 => if x16 < x15 then (if 0 ≤ x16 then (if x16 < (x14.length : Int) then (if x7 < 0 then (fit_Choose.j2 k x0 x2 (rd x14 x16) x14 x15 x16) else (if 0 ≤ (rd x14 x16) then (if (rd x14 x16) < (x0.length : Int) then ((fit_count.f ((rd_T35 x0 (rd x14 x16)).f0) ((rd_T35 x0 (rd x14 x16)).f1) ((rd_T35 x0 (rd x14 x16)).f2) x2).bind fun t161 => (if 0 ≤ x7 then (if x7 < (x0.length : Int) then ((fit_count.f ((rd_T35 x0 x7).f0) ((rd_T35 x0 x7).f1) ((rd_T35 x0 x7).f2) x2).bind fun t163 => (if t161 < t163 then (fit_Choose.j1 k x0 x2 x7 (rd x14 x16) x14 x15 x16 true) else (if t161 = t163 then (fit_Choose.j1 k x0 x2 x7 (rd x14 x16) x14 x15 x16 (decide (((rd_T35 x0 (rd x14 x16)).f0) < ((rd_T35 x0 x7).f0)))) else (fit_Choose.j1 k x0 x2 x7 (rd x14 x16) x14 x15 x16 false)))) else (none)) else (none))) else (none)) else (none))) else (none)) else (none)) else (some x7)
def fit_Choose.j2 : Nat → List (S35) → List Int → Int → List Int → Int → Int → Option (Int)
 | 0, _, _, _, _, _, _ => none
 | k + 1, x0, x2, x7, x14, x15, x16 => fit_Choose.l0 k x0 x2 x7 x14 x15 (wrap64 (x16 + 1))
def fit_Choose.j1 : Nat → List (S35) → List Int → Int → Int → List Int → Int → Int → Bool → Option (Int)
 | 0, _, _, _, _, _, _, _, _ => none
 | k + 1, x0, x2, x7, x9, x14, x15, x16, x55 => if x55 = true then (fit_Choose.j2 k x0 x2 x9 x14 x15 x16) else (fit_Choose.j2 k x0 x2 x7 x14 x15 x16)
end
def fit_Choose.f (k : Nat) (l0 : List (S35)) (a1 : Int) (l2 : List Int) : Option (Int) := (fit_Fits.f k l0 a1).bind fun t156 => (fit_Choose.l0 k l0 l2 (-1) t156 (t156.length : Int) 0)
theorem fit_Choose.mono_l : ∀ k, (∀ y0 y1 y2 y3 y4 y5, LeO (fit_Choose.l0 k y0 y1 y2 y3 y4 y5) (fit_Choose.l0 (k + 1) y0 y1 y2 y3 y4 y5)) ∧ (∀ y0 y1 y2 y3 y4 y5, LeO (fit_Choose.j2 k y0 y1 y2 y3 y4 y5) (fit_Choose.j2 (k + 1) y0 y1 y2 y3 y4 y5)) ∧ (∀ y0 y1 y2 y3 y4 y5 y6 y7, LeO (fit_Choose.j1 k y0 y1 y2 y3 y4 y5 y6 y7) (fit_Choose.j1 (k + 1) y0 y1 y2 y3 y4 y5 y6 y7))
 | 0 => ⟨fun _ _ _ _ _ _ r h => by simp [fit_Choose.l0] at h, fun _ _ _ _ _ _ r h => by simp [fit_Choose.j2] at h, fun _ _ _ _ _ _ _ _ r h => by simp [fit_Choose.j1] at h⟩
 | k + 1 => by
  obtain ⟨ih0, ih1, ih2⟩ := fit_Choose.mono_l k
  refine ⟨?_, ?_, ?_⟩
  ·
   intro y0 y1 y2 y3 y4 y5
   unfold fit_Choose.l0
   repeat' first
   | (with_reducible exact ih0 _ _ _ _ _ _)
   | (with_reducible exact ih1 _ _ _ _ _ _)
   | (with_reducible exact ih2 _ _ _ _ _ _ _ _)
   | (with_reducible exact fit_Fits.mono _ _ _)
   | (with_reducible exact LeO.refl _)
   | (with_reducible exact LeO.none _)
   | (with_reducible refine LeO.ite ?_ ?_)
   | (with_reducible refine LeO.bind ?_ (fun _ => ?_))
   | exact ih0 _ _ _ _ _ _
   | exact ih1 _ _ _ _ _ _
   | exact ih2 _ _ _ _ _ _ _ _
   | exact fit_Fits.mono _ _ _
   | exact LeO.none _
   | refine LeO.ite ?_ ?_
   | refine LeO.bind ?_ (fun _ => ?_)
  ·
   intro y0 y1 y2 y3 y4 y5
   unfold fit_Choose.j2
   repeat' first
   | (with_reducible exact ih0 _ _ _ _ _ _)
   | (with_reducible exact ih1 _ _ _ _ _ _)
   | (with_reducible exact ih2 _ _ _ _ _ _ _ _)
   | (with_reducible exact fit_Fits.mono _ _ _)
   | (with_reducible exact LeO.refl _)
   | (with_reducible exact LeO.none _)
   | (with_reducible refine LeO.ite ?_ ?_)
   | (with_reducible refine LeO.bind ?_ (fun _ => ?_))
   | exact ih0 _ _ _ _ _ _
   | exact ih1 _ _ _ _ _ _
   | exact ih2 _ _ _ _ _ _ _ _
   | exact fit_Fits.mono _ _ _
   | exact LeO.none _
   | refine LeO.ite ?_ ?_
   | refine LeO.bind ?_ (fun _ => ?_)
  ·
   intro y0 y1 y2 y3 y4 y5 y6 y7
   unfold fit_Choose.j1
   repeat' first
   | (with_reducible exact ih0 _ _ _ _ _ _)
   | (with_reducible exact ih1 _ _ _ _ _ _)
   | (with_reducible exact ih2 _ _ _ _ _ _ _ _)
   | (with_reducible exact fit_Fits.mono _ _ _)
   | (with_reducible exact LeO.refl _)
   | (with_reducible exact LeO.none _)
   | (with_reducible refine LeO.ite ?_ ?_)
   | (with_reducible refine LeO.bind ?_ (fun _ => ?_))
   | exact ih0 _ _ _ _ _ _
   | exact ih1 _ _ _ _ _ _
   | exact ih2 _ _ _ _ _ _ _ _
   | exact fit_Fits.mono _ _ _
   | exact LeO.none _
   | refine LeO.ite ?_ ?_
   | refine LeO.bind ?_ (fun _ => ?_)
theorem fit_Choose.mono : ∀ a0 a1 a2 k, LeO (fit_Choose.f k a0 a1 a2) (fit_Choose.f (k + 1) a0 a1 a2) := by
 intro a0 a1 a2 k
 obtain ⟨ih0, ih1, ih2⟩ := fit_Choose.mono_l k
 unfold fit_Choose.f
 repeat' first
   | (with_reducible exact ih0 _ _ _ _ _ _)
   | (with_reducible exact ih1 _ _ _ _ _ _)
   | (with_reducible exact ih2 _ _ _ _ _ _ _ _)
   | (with_reducible exact fit_Fits.mono _ _ _)
   | (with_reducible exact LeO.refl _)
   | (with_reducible exact LeO.none _)
   | (with_reducible refine LeO.ite ?_ ?_)
   | (with_reducible refine LeO.bind ?_ (fun _ => ?_))
   | exact ih0 _ _ _ _ _ _
   | exact ih1 _ _ _ _ _ _
   | exact ih2 _ _ _ _ _ _ _ _
   | exact fit_Fits.mono _ _ _
   | exact LeO.none _
   | refine LeO.ite ?_ ?_
   | refine LeO.bind ?_ (fun _ => ?_)
def fit_Choose.T7 : Bool × List (List Nat × List Nat) := (true, [([], []), ([], []), ([0, 1], [0, 1]), ([2], [2]), ([], []), ([3, 4], [3, 4]), ([], []), ([], []), ([6, 7], [6, 7]), ([8], [8]), ([], []), ([9, 10, 5], [9, 10]), ([5, 11, 0, 1, 2, 3, 4, 5], [5]), ([11, 12, 0, 1, 2, 3, 4, 5, 6, 7, 8, 9, 10, 11, 12], [11])])
def fit_Choose.B7 : List Nat := [0, 0, 3, 7, 0, 31, 0, 0, 192, 448, 0, 2047, 4095, 8191]
theorem fit_Choose.tab7 : rtab .any (opsOf Try.f70 7) = fit_Choose.T7 := by kernel_rfl
theorem fit_Choose.bits7 : waitsOk fit_Choose.T7.2 fit_Choose.B7 = true := by kernel_rfl
def fit_Choose.T8 : Bool × List (List Nat × List Nat) := (true, [([], []), ([], []), ([0, 1], [0, 1]), ([2], [2]), ([3], [3]), ([3], [3]), ([4, 5, 3], [3, 4, 5]), ([6, 3, 3], [3, 6]), ([7], [7]), ([7], [7]), ([8, 9, 7], [7, 8, 9]), ([10, 7], [7, 10]), ([11, 7], [7, 11]), ([7], [7]), ([7], [7]), ([13, 14, 7], [7, 13, 14]), ([15, 7], [7, 15]), ([16, 7], [7, 16]), ([12, 17, 7], [7, 12, 17]), ([7, 18, 3], [3, 7, 18]), ([3, 19], [3, 19])])
def fit_Choose.B8 : List Nat := [0, 0, 3, 7, 15, 15, 63, 127, 255, 255, 1023, 2047, 4095, 255, 255, 24831, 57599, 123135, 262143, 524287, 1048575]
theorem fit_Choose.tab8 : rtab .any (opsOf Try.f70 8) = fit_Choose.T8 := by kernel_rfl
theorem fit_Choose.bits8 : waitsOk fit_Choose.T8.2 fit_Choose.B8 = true := by kernel_rfl
set_option maxHeartbeats 8000000 in
set_option maxRecDepth 100000 in
theorem fit_Choose.calls (k : Nat) (A0 : Option Addr) (c0 : Nat) (l0 : List (S35)) (a1 : Int) (A2 : Option Addr) (c2 : Nat) (l2 : List Int) (r : Int) (w : World) (hr0 : Kd.C k35 w A0 l0.length l0) (hc0 : l0.length ≤ c0) (hr2 : Kd.C (Kd.int .i64) w A2 l2.length l2) (hc2 : l2.length ≤ c2) (h : fit_Choose.f k l0 a1 l2 = some r) :
  Calls Try.prog 70 #[.slice A0 l0.length c0, .int .i64 a1, .slice A2 l2.length c2] w fun e w' => e = .returned (.int .i64 r) ∧ Below w.heap.size w w' := by
 have hu35 := Try.underlying35
 have HR0 := Aside0.mk hr0
 have HC0 := Aside0.mk hc0
 clear hr0 hc0
 have HR2 := Aside0.mk hr2
 have HC2 := Aside0.mk hc2
 clear hr2 hc2
 have HB := Aside0.mk (Below.refl w.heap.size w)
 have H : ((fit_Fits.f k l0 a1).bind fun t156 => (fit_Choose.l0 k l0 l2 (-1) t156 (t156.length : Int) 0)) = some r := h
 clear h
 replace H := Option.bind_eq_some_iff.mp H
 obtain ⟨t156, A40, H⟩ := H
 replace H : (fit_Choose.l0 k l0 l2 (-1) t156 (t156.length : Int) 0) = some r := H
 have A4 := Aside0.mk A40
 clear A40
 have H' := Aside0.mk H
 clear H
 go_enter Try.func70, Try.ntmps70
 go_wp2_with (first | ((with_reducible refine gate_callee (f := 84) rfl ?_); refine goesL_ (some 14) rfl rfl Try.func84 (by kernel_rfl) rfl #[.slice A0 l0.length c0, .int .i64 a1] rfl (by (try simp only [qj, qk, ql]); first | done | rfl | (simp only [qm, qn]; rfl)) ?_; (with_reducible refine (fit_Fits.calls k _ _ l0 a1 t156 _ ?side1 ?side2 A4.out).mono ?_); (case side1 => exact zc HR0.out); (case side2 => exact HC0.out); rintro e w5 ⟨v157, rfl, ho0, hb⟩; refine ⟨_, rfl, ?_⟩; have n0_ := Aside0.mk (Kd.R_lower ho0 (below_size (zB HB))); have n1_ := zb HB hb; clear HB; have HO158 := n0_; have HB := n1_; clear n0_ n1_; (try clear hb); (try clear ho0); obtain ⟨Ao6, co6, eo6⟩ := Kd.R_slice HO158.out; subst eo6))
 go_loopg [7, 16] k (fun kq v7 v16 w' => ∃ (x7_1 : Int) (x16_1 : Int), v7 = .int .i64 x7_1 ∧ v16 = .int .i64 x16_1 ∧ Aside0 (fit_Choose.l0 kq l0 l2 x7_1 t156 (t156.length : Int) x16_1 = some r) ∧ Aside0 (kq ≤ k) ∧ Aside0 (Kd.R (Kd.int .i64) 3 w' w.heap.size (fun _ => True) (.slice Ao6 t156.length co6) t156) ∧ Aside0 (Below w.heap.size w w'))
 case atStart => exact ⟨((-1)), (0), (by first | rfl | (simp; done) | (simp [*]; done)), (by first | rfl | (simp; done) | (simp [*]; done)), H', ⟨Nat.le_refl _⟩, ⟨zr HO158⟩, ⟨zB HB⟩⟩
 case round =>
  clear H'
  try clear c2
  try clear p2
  obtain ⟨x7_1, x16_1, rfl, rfl, HA, HK1, HO_14, HB⟩ := hrel
  cases gk with
  | zero => exact absurd HA.out (by simp [fit_Choose.l0])
  | succ k1 =>
   have H := HA.out
   clear HA
   simp only [fit_Choose.l0] at H
   by_cases c7 : x16_1 < (t156.length : Int)
   rotate_left
   ·
    rw [if_neg c7] at H
    have c7b0 : decide (x16_1 < (t156.length : Int)) = false := decide_eq_false c7
    clear c7
    obtain rfl := Option.some.inj H
    go_wp2
    go_ret
    exact ⟨by first | rfl | (simp [errW_none, errW_some] <;> rfl) | (simp [*, errW_none, errW_some] <;> rfl), zB HB⟩
   rw [if_pos c7] at H
   have c7b0 : decide (x16_1 < (t156.length : Int)) = true := decide_eq_true c7
   clear c7
   have HC8 := Aside0.mk H
   clear H
   go_upto_block 1 with (fail)
   go_cut [7] (fun v7 wc => ∃ (kq : Nat) (x7_7 : Int), v7 = .int .i64 x7_7 ∧ Aside0 (fit_Choose.j2 kq l0 l2 x7_7 t156 (t156.length : Int) x16_1 = some r) ∧ Aside0 (kq ≤ k1) ∧ Aside0 (Kd.R (Kd.int .i64) 3 wc w.heap.size (fun _ => True) (.slice Ao6 t156.length co6) t156) ∧ Aside0 (Below w.heap.size w wc))
   case first =>
    have H := HC8.out
    clear HC8
    by_cases c9 : 0 ≤ x16_1
    rotate_left
    ·
     rw [if_neg c9] at H
     exact absurd H (by simp)
    rw [if_pos c9] at H
    have c9b0 : decide (0 ≤ x16_1) = true := decide_eq_true c9
    clear c9
    (first | rw [c9b0] | (simp only [i64_w, i32_w]; rw [c9b0]) | skip)
    by_cases c10 : x16_1 < (t156.length : Int)
    rotate_left
    ·
     rw [if_neg c10] at H
     exact absurd H (by simp)
    rw [if_pos c10] at H
    have c10b0 : decide (x16_1 < (t156.length : Int)) = true := decide_eq_true c10
    clear c10
    by_cases c11 : x7_1 < 0
    ·
     rw [if_pos c11] at H
     have c11b0 : decide (x7_1 < 0) = true := decide_eq_true c11
     clear c11
     have H' := Aside0.mk H
     clear H
     have p159 : 0 ≤ (x16_1 : Int) := zu
     have q159 : x16_1 < (t156.length : Int) := zu
     obtain ⟨ad159, e159, hx159_0⟩ := Kd.at_int (Kd.R_reads' HO_14.out).2.2 x16_1 p159 q159
     cases e159
     replace p159 := eq_true p159
     replace q159 := eq_true q159
     go_wp2
     go_meet
     case rel => exact ⟨_, (rd t156 x16_1), (by first | rfl | (simp; done) | (simp [*]; done)), H', ⟨by have := HK1.out; first | omega | exact Nat.le_refl _⟩, ⟨zr HO_14⟩, ⟨zB HB⟩⟩
    rw [if_neg c11] at H
    have c11b0 : decide (x7_1 < 0) = false := decide_eq_false c11
    clear c11
    by_cases c12 : 0 ≤ (rd t156 x16_1)
    rotate_left
    ·
     rw [if_neg c12] at H
     exact absurd H (by simp)
    rw [if_pos c12] at H
    have c12b0 : decide (0 ≤ (rd t156 x16_1)) = true := decide_eq_true c12
    clear c12
    by_cases c13 : (rd t156 x16_1) < (l0.length : Int)
    rotate_left
    ·
     rw [if_neg c13] at H
     exact absurd H (by simp)
    rw [if_pos c13] at H
    have c13b0 : decide ((rd t156 x16_1) < (l0.length : Int)) = true := decide_eq_true c13
    clear c13
    replace H := Option.bind_eq_some_iff.mp H
    obtain ⟨t161, A140, H⟩ := H
    replace H : (if 0 ≤ x7_1 then (if x7_1 < (l0.length : Int) then ((fit_count.f ((rd_T35 l0 x7_1).f0) ((rd_T35 l0 x7_1).f1) ((rd_T35 l0 x7_1).f2) l2).bind fun t163 => (if t161 < t163 then (fit_Choose.j1 k1 l0 l2 x7_1 (rd t156 x16_1) t156 (t156.length : Int) x16_1 true) else (if t161 = t163 then (fit_Choose.j1 k1 l0 l2 x7_1 (rd t156 x16_1) t156 (t156.length : Int) x16_1 (decide (((rd_T35 l0 (rd t156 x16_1)).f0) < ((rd_T35 l0 x7_1).f0)))) else (fit_Choose.j1 k1 l0 l2 x7_1 (rd t156 x16_1) t156 (t156.length : Int) x16_1 false)))) else (none)) else (none)) = some r := H
    have A14 := Aside0.mk A140
    clear A140
    by_cases c15 : 0 ≤ x7_1
    rotate_left
    ·
     rw [if_neg c15] at H
     exact absurd H (by simp)
    rw [if_pos c15] at H
    have c15b0 : decide (0 ≤ x7_1) = true := decide_eq_true c15
    clear c15
    by_cases c16 : x7_1 < (l0.length : Int)
    rotate_left
    ·
     rw [if_neg c16] at H
     exact absurd H (by simp)
    rw [if_pos c16] at H
    have c16b0 : decide (x7_1 < (l0.length : Int)) = true := decide_eq_true c16
    clear c16
    replace H := Option.bind_eq_some_iff.mp H
    obtain ⟨t163, A170, H⟩ := H
    replace H : (if t161 < t163 then (fit_Choose.j1 k1 l0 l2 x7_1 (rd t156 x16_1) t156 (t156.length : Int) x16_1 true) else (if t161 = t163 then (fit_Choose.j1 k1 l0 l2 x7_1 (rd t156 x16_1) t156 (t156.length : Int) x16_1 (decide (((rd_T35 l0 (rd t156 x16_1)).f0) < ((rd_T35 l0 x7_1).f0)))) else (fit_Choose.j1 k1 l0 l2 x7_1 (rd t156 x16_1) t156 (t156.length : Int) x16_1 false))) = some r := H
    have A17 := Aside0.mk A170
    clear A170
    have HC18 := Aside0.mk H
    clear H
    have p159 : 0 ≤ (x16_1 : Int) := zu
    have q159 : x16_1 < (t156.length : Int) := zu
    obtain ⟨ad159, e159, hx159_0⟩ := Kd.at_int (Kd.R_reads' HO_14.out).2.2 x16_1 p159 q159
    cases e159
    replace p159 := eq_true p159
    replace q159 := eq_true q159
    try go_wp2
    have n0_ := Aside0.mk (qc HO_14.out)
    have n1_ := Aside0.mk (qf HB.out)
    clear HO_14
    clear HB
    have HO_14 := n0_
    have HB := n1_
    clear n0_ n1_
    have p160 : 0 ≤ ((rd t156 x16_1) : Int) := zu
    have q160 : (rd t156 x16_1) < (l0.length : Int) := zu
    obtain ⟨ad160, e160, hx160_0, hx160_1, hx160_2⟩ := at_T35 HR0.out (rd t156 x16_1) p160 q160
    have hw160_2 := hx160_2
    have hw160_1 := hx160_1
    have hw160_0 := hx160_0
    cases e160
    replace hx160_0 := zw HB hx160_0
    replace hx160_1 := zw HB hx160_1
    replace hx160_2 := zw HB hx160_2
    replace p160 := eq_true p160
    replace q160 := eq_true q160
    have p162 : 0 ≤ (x7_1 : Int) := zu
    have q162 : x7_1 < (l0.length : Int) := zu
    obtain ⟨ad162, e162, hx162_0, hx162_1, hx162_2⟩ := at_T35 HR0.out x7_1 p162 q162
    have hw162_2 := hx162_2
    have hw162_1 := hx162_1
    have hw162_0 := hx162_0
    obtain rfl : ad160 = ad162 := (by injection e162)
    replace hx162_0 := zw HB hx162_0
    replace hx162_1 := zw HB hx162_1
    replace hx162_2 := zw HB hx162_2
    replace p162 := eq_true p162
    replace q162 := eq_true q162
    refine start_ (n := 14) (S := fun w' => w'.cell? (ad160.add (((rd t156 x16_1)).toNat * 3)) = some (.int .i64 ((rd_T35 l0 (rd t156 x16_1)).f0)) ∧ w'.cell? ⟨(ad160.add (((rd t156 x16_1)).toNat * 3)).block, (ad160.add (((rd t156 x16_1)).toNat * 3)).off + 1, none⟩ = some (.int .i64 ((rd_T35 l0 (rd t156 x16_1)).f1)) ∧ w'.cell? ⟨(ad160.add (((rd t156 x16_1)).toNat * 3)).block, (ad160.add (((rd t156 x16_1)).toNat * 3)).off + 2, none⟩ = some (.bool ((rd_T35 l0 (rd t156 x16_1)).f2)) ∧ w'.cell? (ad160.add ((x7_1).toNat * 3)) = some (.int .i64 ((rd_T35 l0 x7_1).f0)) ∧ w'.cell? ⟨(ad160.add ((x7_1).toNat * 3)).block, (ad160.add ((x7_1).toNat * 3)).off + 1, none⟩ = some (.int .i64 ((rd_T35 l0 x7_1).f1)) ∧ w'.cell? ⟨(ad160.add ((x7_1).toNat * 3)).block, (ad160.add ((x7_1).toNat * 3)).off + 2, none⟩ = some (.bool ((rd_T35 l0 x7_1).f2))) (ds := []) (onA 14 0) (by kernel_rfl) rfl rfl ⟨(zw HB hw160_0), (zw HB hw160_1), (zw HB hw160_2), (zw HB hw162_0), (zw HB hw162_1), (zw HB hw162_2)⟩ (fun hHeld => ?_); refine with_tabW fit_Choose.tab7 fit_Choose.bits7 (fun HT_ HW_ => ?_)
    generalize wr.drew = w19 at HO_14 HB hx160_0 hx160_1 hx160_2 hx162_0 hx162_1 hx162_2 hHeld ⊢
    refine pu 0 (some 23) (onA 14 1) HT_ (h := ?_)
    refine pu 1 (some 24) (onA 14 2) HT_ (h := ?_)
    refine pu 2 (some 25) (onA 14 3) HT_ (h := ?_)
    refine pu 4 (some 27) #[tt_,tt_,tt_,ff_,tt_,ff_,ff_,ff_,ff_,ff_,ff_,ff_,ff_,ff_] HT_ (h := ?_)
    refine pu 6 (some 29) #[tt_,tt_,tt_,ff_,tt_,ff_,tt_,ff_,ff_,ff_,ff_,ff_,ff_,ff_] HT_ (h := ?_)
    refine pu 7 (some 30) #[tt_,tt_,tt_,ff_,tt_,ff_,tt_,tt_,ff_,ff_,ff_,ff_,ff_,ff_] HT_ (h := ?_)
    refine pu 8 (some 31) #[tt_,tt_,tt_,ff_,tt_,ff_,tt_,tt_,tt_,ff_,ff_,ff_,ff_,ff_] HT_ (h := ?_)
    refine pu 10 (some 33) #[tt_,tt_,tt_,ff_,tt_,ff_,tt_,tt_,tt_,ff_,tt_,ff_,ff_,ff_] HT_ (h := ?_)
    refine take_ (i := 3) (N := some 26) (v := ?_) (a' := ?_) #[tt_,tt_,tt_,tt_,tt_,ff_,tt_,tt_,tt_,ff_,tt_,ff_,ff_,ff_] rfl rfl (take_ofW HT_.out HW_.out (by kernel_rfl)) (fun _ _ _ h => h) (Or.inl ⟨by rfl, ?_⟩) hHeld ?_ ?_
    rotate_left
    ·
     rintro w' ⟨s0, s1, s2, s3, s4, s5⟩
     go_simp
     with_reducible rfl
    rotate_left
    ·
     simp only [Act.put, qg, qh, qi, i64_w, i32_w]
     rfl
    refine take_ (i := 9) (N := some 32) (v := ?_) (a' := ?_) #[tt_,tt_,tt_,tt_,tt_,ff_,tt_,tt_,tt_,tt_,tt_,ff_,ff_,ff_] rfl rfl (take_ofW HT_.out HW_.out (by kernel_rfl)) (fun _ _ _ h => h) (Or.inl ⟨by rfl, ?_⟩) hHeld ?_ ?_
    rotate_left
    ·
     rintro w' ⟨s0, s1, s2, s3, s4, s5⟩
     go_simp
     with_reducible rfl
    rotate_left
    ·
     simp only [Act.put, qg, qh, qi, i64_w, i32_w]
     rfl
    refine one_ (i := 5) (N := some 28) (onA 14 11) rfl rfl (one_of HT_.out (by kernel_rfl)) (by decide) (fun K hK => ?_)
    refine goes_ Try.func85 (by kernel_rfl) rfl #[.agg #[.int .i64 ((rd_T35 l0 (rd t156 x16_1)).f0), .int .i64 ((rd_T35 l0 (rd t156 x16_1)).f1), .bool ((rd_T35 l0 (rd t156 x16_1)).f2)], .slice A2 l2.length c2] (by rfl) rfl rfl (by (try simp only [qj, qk, ql]); first | done | rfl | (simp only [qm, qn]; rfl)) ?_
    with_reducible refine (fit_count.calls ((rd_T35 l0 (rd t156 x16_1)).f0) ((rd_T35 l0 (rd t156 x16_1)).f1) ((rd_T35 l0 (rd t156 x16_1)).f2) _ _ l2 t161 _ ?side1 ?side2 A14.out).mono ?_
    (case side1 => exact zc (Kd.C_below HR2.out HB.out))
    (case side2 => exact HC2.out)
    rintro e w20 ⟨rfl, hb⟩
    refine ⟨_, rfl, ?_⟩
    have n0_ := za HO_14 hb
    have n1_ := zb HB hb
    clear HO_14
    clear HB
    have HO_14 := n0_
    have HB := n1_
    clear n0_ n1_
    (try clear hb)
    (try clear hb2)
    (try clear hk)
    (try clear hi)
    refine hK.out _ _ ⟨(zw HB hw160_0), (zw HB hw160_1), (zw HB hw160_2), (zw HB hw162_0), (zw HB hw162_1), (zw HB hw162_2)⟩ (fun hHeld => ?_)
    clear hK K
    refine norm_ (a' := ?_) ?_ ?_
    rotate_left
    ·
     show Act.put _ (some 28) _ = _
     simp only [Act.put, qg, qh, qi, i64_w, i32_w]
     rfl
    refine one_ (i := 11) (N := some 34) (onA 14 12) rfl rfl (one_of HT_.out (by kernel_rfl)) (by decide) (fun K hK => ?_)
    refine goes_ Try.func85 (by kernel_rfl) rfl #[.agg #[.int .i64 ((rd_T35 l0 x7_1).f0), .int .i64 ((rd_T35 l0 x7_1).f1), .bool ((rd_T35 l0 x7_1).f2)], .slice A2 l2.length c2] (by rfl) rfl rfl (by (try simp only [qj, qk, ql]); first | done | rfl | (simp only [qm, qn]; rfl)) ?_
    with_reducible refine (fit_count.calls ((rd_T35 l0 x7_1).f0) ((rd_T35 l0 x7_1).f1) ((rd_T35 l0 x7_1).f2) _ _ l2 t163 _ ?side1 ?side2 A17.out).mono ?_
    (case side1 => exact zc (Kd.C_below HR2.out HB.out))
    (case side2 => exact HC2.out)
    rintro e w21 ⟨rfl, hb⟩
    refine ⟨_, rfl, ?_⟩
    have n0_ := za HO_14 hb
    have n1_ := zb HB hb
    clear HO_14
    clear HB
    have HO_14 := n0_
    have HB := n1_
    clear n0_ n1_
    (try clear hb)
    (try clear hb2)
    (try clear hk)
    (try clear hi)
    refine hK.out _ _ ⟨(zw HB hw160_0), (zw HB hw160_1), (zw HB hw160_2), (zw HB hw162_0), (zw HB hw162_1), (zw HB hw162_2)⟩ (fun hHeld => ?_)
    clear hK K
    refine norm_ (a' := ?_) ?_ ?_
    rotate_left
    ·
     show Act.put _ (some 34) _ = _
     simp only [Act.put, qg, qh, qi, i64_w, i32_w]
     rfl
    refine pu 12 (some 10) (onA 14 13) HT_ (h := ?_)
    refine pu 13 (some 11) (onA 14 14) HT_ (h := ?_)
    refine done_ (done_of HT_.out (by kernel_rfl)) ?_
    go_upto_region 8 with (fail)
    go_cut [55] (fun v55 wc => ∃ (kq : Nat) (x55_17 : Bool), v55 = .bool x55_17 ∧ Aside0 (fit_Choose.j1 kq l0 l2 x7_1 (rd t156 x16_1) t156 (t156.length : Int) x16_1 x55_17 = some r) ∧ Aside0 (kq ≤ k1) ∧ Aside0 (Kd.R (Kd.int .i64) 3 wc w.heap.size (fun _ => True) (.slice (some ad159) t156.length co6) t156) ∧ Aside0 (Below w.heap.size w wc))
    case first =>
     have H := HC18.out
     clear HC18
     by_cases c22 : t161 < t163
     ·
      rw [if_pos c22] at H
      have c22b0 : decide (t161 < t163) = true := decide_eq_true c22
      clear c22
      (first | rw [c22b0] | (simp only [i64_w, i32_w]; rw [c22b0]) | skip)
      have H' := Aside0.mk H
      clear H
      try go_wp2
      have n0_ := Aside0.mk (qc HO_14.out)
      have n1_ := Aside0.mk (qf HB.out)
      clear HO_14
      clear HB
      have HO_14 := n0_
      have HB := n1_
      clear n0_ n1_
      refine start_ (n := 21) (S := fun w' => True) (ds := []) (onA 21 0) (by kernel_rfl) rfl rfl trivial (fun hHeld => ?_); refine with_tabW fit_Choose.tab8 fit_Choose.bits8 (fun HT_ HW_ => ?_)
      generalize w21.drew = w23 at HO_14 HB hHeld ⊢
      refine pu 0 (some 35) (onA 21 1) HT_ (h := ?_)
      refine pu 1 (some 36) (onA 21 2) HT_ (h := ?_)
      refine pu 2 (some 37) (onA 21 3) HT_ (h := ?_)
      refine pu 3 (some 38) (onA 21 4) HT_ (h := ?_)
      refine pn 4 (some 39) (onA 21 5) HT_ (h := ?_)
      refine pn 5 (some 40) (onA 21 6) HT_ (h := ?_)
      refine pn 6 (some 41) (onA 21 7) HT_ (h := ?_)
      refine pn 7 (some 42) (onA 21 8) HT_ (h := ?_)
      refine pn 8 (some 43) (onA 21 9) HT_ (h := ?_)
      refine pn 9 (some 44) (onA 21 10) HT_ (h := ?_)
      refine pn 10 (some 45) (onA 21 11) HT_ (h := ?_)
      refine pn 11 (some 46) (onA 21 12) HT_ (h := ?_)
      refine pn 12 (some 47) (onA 21 13) HT_ (h := ?_)
      refine pn 13 (some 48) (onA 21 14) HT_ (h := ?_)
      refine pn 14 (some 49) (onA 21 15) HT_ (h := ?_)
      refine pn 15 (some 50) (onA 21 16) HT_ (h := ?_)
      refine pn 16 (some 51) (onA 21 17) HT_ (h := ?_)
      refine pn 17 (some 52) (onA 21 18) HT_ (h := ?_)
      refine pn 18 (some 53) (onA 21 19) HT_ (h := ?_)
      refine pn 19 (some 54) (onA 21 20) HT_ (h := ?_)
      refine pu 20 (some 55) (onA 21 21) HT_ (h := ?_)
      refine done_ (done_of HT_.out (by kernel_rfl)) ?_
      try go_wp2
      go_meet
      case rel => exact ⟨_, (true), (by first | rfl | (simp; done) | (simp [*]; done)), H', ⟨by have := HK1.out; first | omega | exact Nat.le_refl _⟩, ⟨zr HO_14⟩, ⟨zB HB⟩⟩
     rw [if_neg c22] at H
     have c22b0 : decide (t161 < t163) = false := decide_eq_false c22
     clear c22
     (first | rw [c22b0] | (simp only [i64_w, i32_w]; rw [c22b0]) | skip)
     by_cases c24 : t161 = t163
     rotate_left
     ·
      rw [if_neg c24] at H
      have c24b0 : (t161 == t163) = false := beq_eq_false_iff_ne.mpr c24
      have c24b1 : (t161 != t163) = true := bne_iff_ne.mpr c24
      have H' := Aside0.mk H
      clear H
      try go_wp2
      have n0_ := Aside0.mk (qc HO_14.out)
      have n1_ := Aside0.mk (qf HB.out)
      clear HO_14
      clear HB
      have HO_14 := n0_
      have HB := n1_
      clear n0_ n1_
      refine start_ (n := 21) (S := fun w' => True) (ds := []) (onA 21 0) (by kernel_rfl) rfl rfl trivial (fun hHeld => ?_); refine with_tabW fit_Choose.tab8 fit_Choose.bits8 (fun HT_ HW_ => ?_)
      generalize w21.drew = w26 at HO_14 HB hHeld ⊢
      refine pu 0 (some 35) (onA 21 1) HT_ (h := ?_)
      refine pu 1 (some 36) (onA 21 2) HT_ (h := ?_)
      refine pu 2 (some 37) (onA 21 3) HT_ (h := ?_)
      refine pu 3 (some 38) (onA 21 4) HT_ (h := ?_)
      refine pu 4 (some 39) (onA 21 5) HT_ (h := ?_)
      refine pu 5 (some 40) (onA 21 6) HT_ (h := ?_)
      refine pu 6 (some 41) (onA 21 7) HT_ (h := ?_)
      refine pu 7 (some 42) (onA 21 8) HT_ (h := ?_)
      refine pn 8 (some 43) (onA 21 9) HT_ (h := ?_)
      refine pn 9 (some 44) (onA 21 10) HT_ (h := ?_)
      refine pn 10 (some 45) (onA 21 11) HT_ (h := ?_)
      refine pn 11 (some 46) (onA 21 12) HT_ (h := ?_)
      refine pn 12 (some 47) (onA 21 13) HT_ (h := ?_)
      refine pn 13 (some 48) (onA 21 14) HT_ (h := ?_)
      refine pn 14 (some 49) (onA 21 15) HT_ (h := ?_)
      refine pn 15 (some 50) (onA 21 16) HT_ (h := ?_)
      refine pn 16 (some 51) (onA 21 17) HT_ (h := ?_)
      refine pn 17 (some 52) (onA 21 18) HT_ (h := ?_)
      refine pn 18 (some 53) (onA 21 19) HT_ (h := ?_)
      refine pu 19 (some 54) (onA 21 20) HT_ (h := ?_)
      refine pu 20 (some 55) (onA 21 21) HT_ (h := ?_)
      refine done_ (done_of HT_.out (by kernel_rfl)) ?_
      try go_wp2
      go_meet
      case rel => exact ⟨_, (false), (by first | rfl | (simp; done) | (simp [*]; done)), H', ⟨by have := HK1.out; first | omega | exact Nat.le_refl _⟩, ⟨zr HO_14⟩, ⟨zB HB⟩⟩
     rw [if_pos c24] at H
     have c24b0 : (t161 == t163) = true := beq_iff_eq.mpr c24
     have c24b1 : (t161 != t163) = false := bne_eq_false_iff_eq.mpr c24
     clear c24
     have H' := Aside0.mk H
     clear H
     try go_wp2
     have n0_ := Aside0.mk (qc HO_14.out)
     have n1_ := Aside0.mk (qf HB.out)
     clear HO_14
     clear HB
     have HO_14 := n0_
     have HB := n1_
     clear n0_ n1_
     have p164 : 0 ≤ ((rd t156 x16_1) : Int) := zu
     have q164 : (rd t156 x16_1) < (l0.length : Int) := zu
     obtain ⟨ad164, e164, hx164_0, hx164_1, hx164_2⟩ := at_T35 HR0.out (rd t156 x16_1) p164 q164
     have hw164_2 := hx164_2
     have hw164_1 := hx164_1
     have hw164_0 := hx164_0
     obtain rfl : ad160 = ad164 := (by injection e164)
     replace hx164_0 := zw HB hx164_0
     replace hx164_1 := zw HB hx164_1
     replace hx164_2 := zw HB hx164_2
     replace p164 := eq_true p164
     replace q164 := eq_true q164
     have p165 : 0 ≤ (x7_1 : Int) := zu
     have q165 : x7_1 < (l0.length : Int) := zu
     obtain ⟨ad165, e165, hx165_0, hx165_1, hx165_2⟩ := at_T35 HR0.out x7_1 p165 q165
     have hw165_2 := hx165_2
     have hw165_1 := hx165_1
     have hw165_0 := hx165_0
     obtain rfl : ad160 = ad165 := (by injection e165)
     replace hx165_0 := zw HB hx165_0
     replace hx165_1 := zw HB hx165_1
     replace hx165_2 := zw HB hx165_2
     replace p165 := eq_true p165
     replace q165 := eq_true q165
     refine start_ (n := 21) (S := fun w' => w'.cell? (ad160.add (((rd t156 x16_1)).toNat * 3)) = some (.int .i64 ((rd_T35 l0 (rd t156 x16_1)).f0)) ∧ w'.cell? ⟨(ad160.add (((rd t156 x16_1)).toNat * 3)).block, (ad160.add (((rd t156 x16_1)).toNat * 3)).off + 1, none⟩ = some (.int .i64 ((rd_T35 l0 (rd t156 x16_1)).f1)) ∧ w'.cell? ⟨(ad160.add (((rd t156 x16_1)).toNat * 3)).block, (ad160.add (((rd t156 x16_1)).toNat * 3)).off + 2, none⟩ = some (.bool ((rd_T35 l0 (rd t156 x16_1)).f2)) ∧ w'.cell? (ad160.add ((x7_1).toNat * 3)) = some (.int .i64 ((rd_T35 l0 x7_1).f0)) ∧ w'.cell? ⟨(ad160.add ((x7_1).toNat * 3)).block, (ad160.add ((x7_1).toNat * 3)).off + 1, none⟩ = some (.int .i64 ((rd_T35 l0 x7_1).f1)) ∧ w'.cell? ⟨(ad160.add ((x7_1).toNat * 3)).block, (ad160.add ((x7_1).toNat * 3)).off + 2, none⟩ = some (.bool ((rd_T35 l0 x7_1).f2))) (ds := []) (onA 21 0) (by kernel_rfl) rfl rfl ⟨(zw HB hw164_0), (zw HB hw164_1), (zw HB hw164_2), (zw HB hw165_0), (zw HB hw165_1), (zw HB hw165_2)⟩ (fun hHeld => ?_); refine with_tabW fit_Choose.tab8 fit_Choose.bits8 (fun HT_ HW_ => ?_)
     generalize w21.drew = w25 at HO_14 HB hx164_0 hx164_1 hx164_2 hx165_0 hx165_1 hx165_2 hHeld ⊢
     refine pu 0 (some 35) (onA 21 1) HT_ (h := ?_)
     refine pu 1 (some 36) (onA 21 2) HT_ (h := ?_)
     refine pu 2 (some 37) (onA 21 3) HT_ (h := ?_)
     refine pu 3 (some 38) (onA 21 4) HT_ (h := ?_)
     refine pu 4 (some 39) (onA 21 5) HT_ (h := ?_)
     refine pu 5 (some 40) (onA 21 6) HT_ (h := ?_)
     refine pu 6 (some 41) (onA 21 7) HT_ (h := ?_)
     refine pu 7 (some 42) (onA 21 8) HT_ (h := ?_)
     refine pu 8 (some 43) (onA 21 9) HT_ (h := ?_)
     refine pu 9 (some 44) (onA 21 10) HT_ (h := ?_)
     refine pu 10 (some 45) (onA 21 11) HT_ (h := ?_)
     refine pu 11 (some 46) (onA 21 12) HT_ (h := ?_)
     refine pu 13 (some 48) #[tt_,tt_,tt_,tt_,tt_,tt_,tt_,tt_,tt_,tt_,tt_,tt_,ff_,tt_,ff_,ff_,ff_,ff_,ff_,ff_,ff_] HT_ (h := ?_)
     refine pu 14 (some 49) #[tt_,tt_,tt_,tt_,tt_,tt_,tt_,tt_,tt_,tt_,tt_,tt_,ff_,tt_,tt_,ff_,ff_,ff_,ff_,ff_,ff_] HT_ (h := ?_)
     refine pu 15 (some 50) #[tt_,tt_,tt_,tt_,tt_,tt_,tt_,tt_,tt_,tt_,tt_,tt_,ff_,tt_,tt_,tt_,ff_,ff_,ff_,ff_,ff_] HT_ (h := ?_)
     refine pu 16 (some 51) #[tt_,tt_,tt_,tt_,tt_,tt_,tt_,tt_,tt_,tt_,tt_,tt_,ff_,tt_,tt_,tt_,tt_,ff_,ff_,ff_,ff_] HT_ (h := ?_)
     refine take_ (i := 12) (N := some 47) (v := ?_) (a' := ?_) (onA 21 17) rfl rfl (take_ofW HT_.out HW_.out (by kernel_rfl)) (fun _ _ _ h => h) (Or.inl ⟨by rfl, ?_⟩) hHeld ?_ ?_
     rotate_left
     ·
      rintro w' ⟨s0, s1, s2, s3, s4, s5⟩
      go_simp
      with_reducible rfl
     rotate_left
     ·
      simp only [Act.put, qg, qh, qi, i64_w, i32_w]
      rfl
     refine take_ (i := 17) (N := some 52) (v := ?_) (a' := ?_) (onA 21 18) rfl rfl (take_ofW HT_.out HW_.out (by kernel_rfl)) (fun _ _ _ h => h) (Or.inl ⟨by rfl, ?_⟩) hHeld ?_ ?_
     rotate_left
     ·
      rintro w' ⟨s0, s1, s2, s3, s4, s5⟩
      go_simp
      with_reducible rfl
     rotate_left
     ·
      simp only [Act.put, qg, qh, qi, i64_w, i32_w]
      rfl
     refine pu 18 (some 53) (onA 21 19) HT_ (h := ?_)
     refine pu 19 (some 54) (onA 21 20) HT_ (h := ?_)
     refine pu 20 (some 55) (onA 21 21) HT_ (h := ?_)
     refine done_ (done_of HT_.out (by kernel_rfl)) ?_
     try go_wp2
     go_meet
     case rel => exact ⟨_, (decide (((rd_T35 l0 (rd t156 x16_1)).f0) < ((rd_T35 l0 x7_1).f0))), (by first | rfl | (simp; done) | (simp [*]; done)), H', ⟨by have := HK1.out; first | omega | exact Nat.le_refl _⟩, ⟨zr HO_14⟩, ⟨zB HB⟩⟩
    clear HC18
    try clear p1
    try clear q1
    try clear hx1
    try clear c2
    try clear p2
    try clear c8
    try clear p16
    try clear q16
    try clear hx16
    try clear c22
    try clear c22b0
    try clear c24
    try clear c24b0
    try clear c24b1
    try clear hx164_0
    try clear hx164_1
    try clear hx164_2
    try clear hx165_0
    try clear hx165_1
    try clear hx165_2
    try clear p164
    try clear p165
    try clear q164
    try clear q165
    obtain ⟨kq, x55_17, rfl, HA, HJ17, HO_14, HB⟩ := hcut
    cases kq with
    | zero => exact absurd HA.out (by simp [fit_Choose.j1])
    | succ kj17 =>
     have H := HA.out
     clear HA
     simp only [fit_Choose.j1] at H
     by_cases c27 : x55_17 = true
     ·
      subst c27
      have H1 : (fit_Choose.j2 kj17 l0 l2 (rd t156 x16_1) t156 (t156.length : Int) x16_1) = some r := by rw [if_pos rfl] at H; exact H
      clear H
      have H := H1
      clear H1
      have H' := Aside0.mk H
      clear H
      go_wp2
      go_meet
      case rel => exact ⟨_, ((rd t156 x16_1)), (by first | rfl | (simp; done) | (simp [*]; done)), H', ⟨by have := HK1.out; have := HJ17.out; first | omega | exact Nat.le_refl _⟩, ⟨zr HO_14⟩, ⟨zB HB⟩⟩
     replace c27 := Bool.eq_false_iff.mpr c27
     subst c27
     have H1 : (fit_Choose.j2 kj17 l0 l2 x7_1 t156 (t156.length : Int) x16_1) = some r := by rw [if_neg (show ¬ (false = true) by decide)] at H; exact H
     clear H
     have H := H1
     clear H1
     have H' := Aside0.mk H
     clear H
     go_wp2
     go_meet
     case rel => exact ⟨_, (x7_1), (by first | rfl | (simp; done) | (simp [*]; done)), H', ⟨by have := HK1.out; have := HJ17.out; first | omega | exact Nat.le_refl _⟩, ⟨zr HO_14⟩, ⟨zB HB⟩⟩
   clear HC8
   try clear c1
   try clear p1
   try clear q1
   try clear hx1
   try clear c2
   try clear p2
   try clear c8
   try clear c9
   try clear c10
   try clear c12
   try clear c13
   try clear c15
   try clear c16
   try clear p16
   try clear q16
   try clear hx16
   try clear c22
   try clear c22b0
   try clear c24
   try clear c24b0
   try clear c24b1
   try clear c27
   try clear hx164_0
   try clear hx164_1
   try clear hx164_2
   try clear hx165_0
   try clear hx165_1
   try clear hx165_2
   try clear p1
   try clear p16
   try clear p164
   try clear p165
   try clear p2
   try clear q1
   try clear q16
   try clear q164
   try clear q165
   obtain ⟨kq, x7_7, rfl, HA, HJ7, HO_14, HB⟩ := hcut
   cases kq with
   | zero => exact absurd HA.out (by simp [fit_Choose.j2])
   | succ kj7 =>
    have H := HA.out
    clear HA
    simp only [fit_Choose.j2] at H
    have H' := Aside0.mk H
    clear H
    go_wp2
    go_roundg kj7
    case measure => have := HK1.out; have := HJ7.out; omega
    case rel => exact ⟨(x7_7), (wrap64 (x16_1 + 1)), (by first | rfl | (simp; done) | (simp [*]; done)), (by first | rfl | (simp; done) | (simp [*]; done)), H', ⟨by have := HK1.out; have := HJ7.out; omega⟩, ⟨zr HO_14⟩, ⟨zB HB⟩⟩

end Go.Proofs.Ytglekonhdjploaa.XImageForms
