-- Laid by this session's own printer (wip/xprint.py): each Go function that the law reaches as a plain Lean function, and that the call comes to it.
import Derived.Test.YtglekonhdjploaaXImageKeepsx0
import Derived.Test.YtglekonhdjploaaXImageKeepsx4
namespace Go.Proofs.Ytglekonhdjploaa.XImageKeeps
open Go.RowKit Go.Proofs.YtglekonhdjploaaW.PrintWords Go.Proofs.YtglekonhdjploaaW.PrintLast Go.Proofs.YtglekonhdjploaaW.PrintMore
attribute [local go_sem] max2_int min2_int max_two min_two max_three min_three max_four min_four   -- for this text's walks alone
set_option linter.unusedVariables false
set_option linter.unusedSimpArgs false

/-! ### fit_Choose: function 70 -/
def fit_Choose.l0 : Nat → List (S35) → List Int → Int → List Int → Int → Int → Option (Int)
 | 0, _, _, _, _, _, _ => none
 | k + 1, x0, x2, x7, x14, x15, x16 => if x16 < x15 then (if 0 ≤ x16 then (if x16 < (x14.length : Int) then (if x7 < 0 then (fit_Choose.l0 k x0 x2 (rd x14 x16) x14 x15 (wrap64 (x16 + 1))) else (if 0 ≤ (rd x14 x16) then (if (rd x14 x16) < (x0.length : Int) then ((fit_count.f ((rd_T35 x0 (rd x14 x16)).f0) ((rd_T35 x0 (rd x14 x16)).f1) ((rd_T35 x0 (rd x14 x16)).f2) x2).bind fun t178 => (if 0 ≤ x7 then (if x7 < (x0.length : Int) then ((fit_count.f ((rd_T35 x0 x7).f0) ((rd_T35 x0 x7).f1) ((rd_T35 x0 x7).f2) x2).bind fun t180 => (if t178 < t180 then (fit_Choose.l0 k x0 x2 (rd x14 x16) x14 x15 (wrap64 (x16 + 1))) else (if t178 = t180 then (if ((rd_T35 x0 (rd x14 x16)).f0) < ((rd_T35 x0 x7).f0) then (fit_Choose.l0 k x0 x2 (rd x14 x16) x14 x15 (wrap64 (x16 + 1))) else (fit_Choose.l0 k x0 x2 x7 x14 x15 (wrap64 (x16 + 1)))) else (fit_Choose.l0 k x0 x2 x7 x14 x15 (wrap64 (x16 + 1)))))) else (none)) else (none))) else (none)) else (none))) else (none)) else (none)) else (some x7)
def fit_Choose.f (k : Nat) (l0 : List (S35)) (a1 : Int) (l2 : List Int) : Option (Int) := (fit_Fits.f k l0 a1).bind fun t173 => (fit_Choose.l0 k l0 l2 (-1) t173 (t173.length : Int) 0)
theorem fit_Choose.mono_l : ∀ k, (∀ y0 y1 y2 y3 y4 y5, LeO (fit_Choose.l0 k y0 y1 y2 y3 y4 y5) (fit_Choose.l0 (k + 1) y0 y1 y2 y3 y4 y5))
 | 0 => fun _ _ _ _ _ _ r h => by simp [fit_Choose.l0] at h
 | k + 1 => by
  have ih0 := fit_Choose.mono_l k
  ·
   intro y0 y1 y2 y3 y4 y5
   unfold fit_Choose.l0
   repeat' first
   | (with_reducible exact ih0 _ _ _ _ _ _)
   | (with_reducible exact fit_Fits.mono _ _ _)
   | (with_reducible exact LeO.refl _)
   | (with_reducible exact LeO.none _)
   | (with_reducible refine LeO.ite ?_ ?_)
   | (with_reducible refine LeO.bind ?_ (fun _ => ?_))
   | exact ih0 _ _ _ _ _ _
   | exact fit_Fits.mono _ _ _
   | exact LeO.none _
   | refine LeO.ite ?_ ?_
   | refine LeO.bind ?_ (fun _ => ?_)
theorem fit_Choose.mono : ∀ a0 a1 a2 k, LeO (fit_Choose.f k a0 a1 a2) (fit_Choose.f (k + 1) a0 a1 a2) := by
 intro a0 a1 a2 k
 have ih0 := fit_Choose.mono_l k
 unfold fit_Choose.f
 repeat' first
   | (with_reducible exact ih0 _ _ _ _ _ _)
   | (with_reducible exact fit_Fits.mono _ _ _)
   | (with_reducible exact LeO.refl _)
   | (with_reducible exact LeO.none _)
   | (with_reducible refine LeO.ite ?_ ?_)
   | (with_reducible refine LeO.bind ?_ (fun _ => ?_))
   | exact ih0 _ _ _ _ _ _
   | exact fit_Fits.mono _ _ _
   | exact LeO.none _
   | refine LeO.ite ?_ ?_
   | refine LeO.bind ?_ (fun _ => ?_)
def fit_Choose.T7 : Bool × List (List Nat × List Nat) := (true, [([], []), ([], []), ([0, 1], [0, 1]), ([2], [2]), ([], []), ([3, 4], [3, 4]), ([], []), ([], []), ([6, 7], [6, 7]), ([8], [8]), ([], []), ([9, 10, 5], [9, 10]), ([5, 11, 0, 1, 2, 3, 4, 5], [5]), ([11, 12, 0, 1, 2, 3, 4, 5, 6, 7, 8, 9, 10, 11, 12], [11])])
def fit_Choose.B7 : List Nat := [0, 0, 3, 7, 0, 31, 0, 0, 192, 448, 0, 2047, 4095, 8191]
theorem fit_Choose.tab7 : rtab .any (opsOf Try.f70 7) = fit_Choose.T7 := by kernel_rfl
theorem fit_Choose.bits7 : waitsOk fit_Choose.T7.2 fit_Choose.B7 = true := by kernel_rfl
def fit_Choose.T8 : Bool × List (List Nat × List Nat) := (true, [([], []), ([], []), ([0, 1], [0, 1]), ([2], [2]), ([3], [3]), ([3], [3]), ([4, 5, 3], [3, 4, 5]), ([6, 3, 3], [3, 6]), ([7], [7]), ([7], [7]), ([8, 9, 7], [7, 8, 9]), ([10, 7], [7, 10]), ([11, 7], [7, 11]), ([7], [7]), ([7], [7]), ([13, 14, 7], [7, 13, 14]), ([15, 7], [7, 15]), ([16, 7], [7, 16]), ([12, 17, 7], [7, 12, 17]), ([7, 18, 3], [3, 7, 18]), ([3, 19], [3, 19])])
def fit_Choose.B8 : List Nat := [0, 0, 3, 7, 15, 15, 63, 127, 255, 255, 1023, 2047, 4095, 255, 255, 24831, 57599, 123135, 262143, 524287, 1048575]
theorem fit_Choose.tab8 : rtab .any (opsOf Try.f70 8) = fit_Choose.T8 := by kernel_rfl
theorem fit_Choose.bits8 : waitsOk fit_Choose.T8.2 fit_Choose.B8 = true := by kernel_rfl
set_option maxHeartbeats 8000000 in
set_option maxRecDepth 100000 in
theorem fit_Choose.calls (k : Nat) (A0 : Option Addr) (c0 : Nat) (l0 : List (S35)) (a1 : Int) (A2 : Option Addr) (c2 : Nat) (l2 : List Int) (r : Int) (w : World) (hr0 : Kd.C k35 w A0 l0.length l0) (hc0 : l0.length ≤ c0) (hr2 : Kd.C (Kd.int .i64) w A2 l2.length l2) (hc2 : l2.length ≤ c2) (h : fit_Choose.f k l0 a1 l2 = some r) :
  Calls Try.prog 70 #[.slice A0 l0.length c0, .int .i64 a1, .slice A2 l2.length c2] w fun e w' => e = .returned (.int .i64 r) ∧ Below w.heap.size w w' := by
 have hu35 := Try.underlying35
 have HR0 := Aside0.mk hr0
 have HC0 := Aside0.mk hc0
 clear hr0 hc0
 have HR2 := Aside0.mk hr2
 have HC2 := Aside0.mk hc2
 clear hr2 hc2
 have HB := Aside0.mk (Below.refl w.heap.size w)
 have H : ((fit_Fits.f k l0 a1).bind fun t173 => (fit_Choose.l0 k l0 l2 (-1) t173 (t173.length : Int) 0)) = some r := h
 clear h
 replace H := Option.bind_eq_some_iff.mp H
 obtain ⟨t173, A40, H⟩ := H
 replace H : (fit_Choose.l0 k l0 l2 (-1) t173 (t173.length : Int) 0) = some r := H
 have A4 := Aside0.mk A40
 clear A40
 have H' := Aside0.mk H
 clear H
 go_enter Try.func70, Try.ntmps70
 go_wp2_with (first | ((with_reducible refine gate_callee (f := 84) rfl ?_); refine goesL_ (some 14) rfl rfl Try.func84 (by kernel_rfl) rfl #[.slice A0 l0.length c0, .int .i64 a1] rfl (by (try simp only [List.map_toArray, List.map_cons, List.map_nil]); first | done | rfl | (simp only [List.length_drop, List.length_take]; rfl)) ?_; (with_reducible refine (fit_Fits.calls k _ _ l0 a1 t173 _ ?side1 ?side2 A4.out).mono ?_); (case side1 => repeat (first | exact HR0.out | (with_reducible refine Kd.C_alloc ?_ _) | (with_reducible refine Kd.C_drewN ?_ _) | (with_reducible refine Kd.C_drew ?_))); (case side2 => exact HC0.out); rintro e w5 ⟨v174, rfl, ho0, hb⟩; refine ⟨_, rfl, ?_⟩; have n0_ := Aside0.mk (Kd.R_lower ho0 (below_size (by repeat (first | (with_reducible first | exact HB.out | apply below_alloc | apply pw_below_drewN | apply below_drew1) | exact HB.out)))); have n1_ := Aside0.mk (below_step (by repeat (first | (with_reducible first | exact HB.out | apply below_alloc | apply pw_below_drewN | apply below_drew1) | exact HB.out)) hb); clear HB; have HO175 := n0_; have HB := n1_; clear n0_ n1_; (try clear hb); (try clear hb2); (try clear hk); (try clear hi); (try clear ho0); obtain ⟨Ao6, co6, eo6⟩ := Kd.R_slice HO175.out; subst eo6))
 go_loopg [7, 16] k (fun kq v7 v16 w' => ∃ (x7_1 : Int) (x16_1 : Int), v7 = .int .i64 x7_1 ∧ v16 = .int .i64 x16_1 ∧ Aside0 (fit_Choose.l0 kq l0 l2 x7_1 t173 (t173.length : Int) x16_1 = some r) ∧ Aside0 (kq ≤ k) ∧ Aside0 (Kd.R (Kd.int .i64) 3 w' w.heap.size (fun _ => True) (.slice Ao6 t173.length co6) t173) ∧ Aside0 (Below w.heap.size w w'))
 case atStart => exact ⟨((-1)), (0), (by first | rfl | (simp; done) | (simp [*]; done)), (by first | rfl | (simp; done) | (simp [*]; done)), H', ⟨Nat.le_refl _⟩, ⟨by (with_reducible repeat (first | apply Kd.R_alloc | apply Kd.R_drewN | apply Kd.R_drew)); exact HO175.out⟩, ⟨by repeat (first | (with_reducible first | exact HB.out | apply below_alloc | apply pw_below_drewN | apply below_drew1) | exact HB.out)⟩⟩
 case round =>
  clear H'
  try clear c2
  try clear p2
  obtain ⟨x7_1, x16_1, rfl, rfl, HA, HK1, HO_14, HB⟩ := hrel
  cases gk with
  | zero => exact absurd HA.out (by simp [fit_Choose.l0])
  | succ k1 =>
   have H := HA.out
   clear HA
   simp only [fit_Choose.l0] at H
   by_cases c7 : x16_1 < (t173.length : Int)
   rotate_left
   ·
    rw [if_neg c7] at H
    have c7b0 : decide (x16_1 < (t173.length : Int)) = false := decide_eq_false c7
    clear c7
    obtain rfl := Option.some.inj H
    go_wp2
    go_ret
    exact ⟨by first | rfl | (simp [errW_none, errW_some] <;> rfl) | (simp [*, errW_none, errW_some] <;> rfl), by repeat (first | (with_reducible first | exact HB.out | apply below_alloc | apply pw_below_drewN | apply below_drew1) | exact HB.out)⟩
   rw [if_pos c7] at H
   have c7b0 : decide (x16_1 < (t173.length : Int)) = true := decide_eq_true c7
   clear c7
   by_cases c8 : 0 ≤ x16_1
   rotate_left
   ·
    rw [if_neg c8] at H
    exact absurd H (by simp)
   rw [if_pos c8] at H
   have c8b0 : decide (0 ≤ x16_1) = true := decide_eq_true c8
   clear c8
   by_cases c9 : x16_1 < (t173.length : Int)
   rotate_left
   ·
    rw [if_neg c9] at H
    exact absurd H (by simp)
   rw [if_pos c9] at H
   have c9b0 : decide (x16_1 < (t173.length : Int)) = true := decide_eq_true c9
   clear c9
   by_cases c10 : x7_1 < 0
   ·
    rw [if_pos c10] at H
    have c10b0 : decide (x7_1 < 0) = true := decide_eq_true c10
    clear c10
    have H' := Aside0.mk H
    clear H
    have p176 : 0 ≤ (x16_1 : Int) := of_decide_eq_true (by first | (with_reducible assumption) | assumption)
    have q176 : x16_1 < (t173.length : Int) := of_decide_eq_true (by first | (with_reducible assumption) | assumption)
    obtain ⟨ad176, e176, hx176_0⟩ := Kd.at_int (Kd.R_reads' HO_14.out).2.2 x16_1 p176 q176
    cases e176
    replace p176 := eq_true p176
    replace q176 := eq_true q176
    go_wp2
    go_roundg k1
    case measure => have := HK1.out; omega
    case rel => exact ⟨(rd t173 x16_1), (wrap64 (x16_1 + 1)), (by first | rfl | (simp; done) | (simp [*]; done)), (by first | rfl | (simp; done) | (simp [*]; done)), H', ⟨by have := HK1.out; omega⟩, ⟨by (with_reducible repeat (first | apply Kd.R_alloc | apply Kd.R_drewN | apply Kd.R_drew)); exact HO_14.out⟩, ⟨by repeat (first | (with_reducible first | exact HB.out | apply below_alloc | apply pw_below_drewN | apply below_drew1) | exact HB.out)⟩⟩
   rw [if_neg c10] at H
   have c10b0 : decide (x7_1 < 0) = false := decide_eq_false c10
   clear c10
   by_cases c11 : 0 ≤ (rd t173 x16_1)
   rotate_left
   ·
    rw [if_neg c11] at H
    exact absurd H (by simp)
   rw [if_pos c11] at H
   have c11b0 : decide (0 ≤ (rd t173 x16_1)) = true := decide_eq_true c11
   clear c11
   by_cases c12 : (rd t173 x16_1) < (l0.length : Int)
   rotate_left
   ·
    rw [if_neg c12] at H
    exact absurd H (by simp)
   rw [if_pos c12] at H
   have c12b0 : decide ((rd t173 x16_1) < (l0.length : Int)) = true := decide_eq_true c12
   clear c12
   replace H := Option.bind_eq_some_iff.mp H
   obtain ⟨t178, A130, H⟩ := H
   replace H : (if 0 ≤ x7_1 then (if x7_1 < (l0.length : Int) then ((fit_count.f ((rd_T35 l0 x7_1).f0) ((rd_T35 l0 x7_1).f1) ((rd_T35 l0 x7_1).f2) l2).bind fun t180 => (if t178 < t180 then (fit_Choose.l0 k1 l0 l2 (rd t173 x16_1) t173 (t173.length : Int) (wrap64 (x16_1 + 1))) else (if t178 = t180 then (if ((rd_T35 l0 (rd t173 x16_1)).f0) < ((rd_T35 l0 x7_1).f0) then (fit_Choose.l0 k1 l0 l2 (rd t173 x16_1) t173 (t173.length : Int) (wrap64 (x16_1 + 1))) else (fit_Choose.l0 k1 l0 l2 x7_1 t173 (t173.length : Int) (wrap64 (x16_1 + 1)))) else (fit_Choose.l0 k1 l0 l2 x7_1 t173 (t173.length : Int) (wrap64 (x16_1 + 1)))))) else (none)) else (none)) = some r := H
   have A13 := Aside0.mk A130
   clear A130
   by_cases c14 : 0 ≤ x7_1
   rotate_left
   ·
    rw [if_neg c14] at H
    exact absurd H (by simp)
   rw [if_pos c14] at H
   have c14b0 : decide (0 ≤ x7_1) = true := decide_eq_true c14
   clear c14
   by_cases c15 : x7_1 < (l0.length : Int)
   rotate_left
   ·
    rw [if_neg c15] at H
    exact absurd H (by simp)
   rw [if_pos c15] at H
   have c15b0 : decide (x7_1 < (l0.length : Int)) = true := decide_eq_true c15
   clear c15
   replace H := Option.bind_eq_some_iff.mp H
   obtain ⟨t180, A160, H⟩ := H
   replace H : (if t178 < t180 then (fit_Choose.l0 k1 l0 l2 (rd t173 x16_1) t173 (t173.length : Int) (wrap64 (x16_1 + 1))) else (if t178 = t180 then (if ((rd_T35 l0 (rd t173 x16_1)).f0) < ((rd_T35 l0 x7_1).f0) then (fit_Choose.l0 k1 l0 l2 (rd t173 x16_1) t173 (t173.length : Int) (wrap64 (x16_1 + 1))) else (fit_Choose.l0 k1 l0 l2 x7_1 t173 (t173.length : Int) (wrap64 (x16_1 + 1)))) else (fit_Choose.l0 k1 l0 l2 x7_1 t173 (t173.length : Int) (wrap64 (x16_1 + 1))))) = some r := H
   have A16 := Aside0.mk A160
   clear A160
   by_cases c17 : t178 < t180
   ·
    rw [if_pos c17] at H
    have c17b0 : decide (t178 < t180) = true := decide_eq_true c17
    clear c17
    have H' := Aside0.mk H
    clear H
    have p176 : 0 ≤ (x16_1 : Int) := of_decide_eq_true (by first | (with_reducible assumption) | assumption)
    have q176 : x16_1 < (t173.length : Int) := of_decide_eq_true (by first | (with_reducible assumption) | assumption)
    obtain ⟨ad176, e176, hx176_0⟩ := Kd.at_int (Kd.R_reads' HO_14.out).2.2 x16_1 p176 q176
    cases e176
    replace p176 := eq_true p176
    replace q176 := eq_true q176
    try go_wp2
    have n0_ := Aside0.mk (Kd.R_drew HO_14.out)
    have n1_ := Aside0.mk (below_drew1 HB.out)
    clear HO_14
    clear HB
    have HO_14 := n0_
    have HB := n1_
    clear n0_ n1_
    have p177 : 0 ≤ ((rd t173 x16_1) : Int) := of_decide_eq_true (by first | (with_reducible assumption) | assumption)
    have q177 : (rd t173 x16_1) < (l0.length : Int) := of_decide_eq_true (by first | (with_reducible assumption) | assumption)
    obtain ⟨ad177, e177, hx177_0, hx177_1, hx177_2⟩ := at_T35 HR0.out (rd t173 x16_1) p177 q177
    have hw177_2 := hx177_2
    have hw177_1 := hx177_1
    have hw177_0 := hx177_0
    cases e177
    replace hx177_0 := (HB.out.cell (World.block_lt_of_cell? w _ hx177_0)).trans hx177_0
    replace hx177_1 := (HB.out.cell (World.block_lt_of_cell? w _ hx177_1)).trans hx177_1
    replace hx177_2 := (HB.out.cell (World.block_lt_of_cell? w _ hx177_2)).trans hx177_2
    replace p177 := eq_true p177
    replace q177 := eq_true q177
    have p179 : 0 ≤ (x7_1 : Int) := of_decide_eq_true (by first | (with_reducible assumption) | assumption)
    have q179 : x7_1 < (l0.length : Int) := of_decide_eq_true (by first | (with_reducible assumption) | assumption)
    obtain ⟨ad179, e179, hx179_0, hx179_1, hx179_2⟩ := at_T35 HR0.out x7_1 p179 q179
    have hw179_2 := hx179_2
    have hw179_1 := hx179_1
    have hw179_0 := hx179_0
    obtain rfl : ad177 = ad179 := (by injection e179)
    replace hx179_0 := (HB.out.cell (World.block_lt_of_cell? w _ hx179_0)).trans hx179_0
    replace hx179_1 := (HB.out.cell (World.block_lt_of_cell? w _ hx179_1)).trans hx179_1
    replace hx179_2 := (HB.out.cell (World.block_lt_of_cell? w _ hx179_2)).trans hx179_2
    replace p179 := eq_true p179
    replace q179 := eq_true q179
    refine start_ (n := 14) (S := fun w' => w'.cell? (ad177.add (((rd t173 x16_1)).toNat * 3)) = some (.int .i64 ((rd_T35 l0 (rd t173 x16_1)).f0)) ∧ w'.cell? ⟨(ad177.add (((rd t173 x16_1)).toNat * 3)).block, (ad177.add (((rd t173 x16_1)).toNat * 3)).off + 1, none⟩ = some (.int .i64 ((rd_T35 l0 (rd t173 x16_1)).f1)) ∧ w'.cell? ⟨(ad177.add (((rd t173 x16_1)).toNat * 3)).block, (ad177.add (((rd t173 x16_1)).toNat * 3)).off + 2, none⟩ = some (.bool ((rd_T35 l0 (rd t173 x16_1)).f2)) ∧ w'.cell? (ad177.add ((x7_1).toNat * 3)) = some (.int .i64 ((rd_T35 l0 x7_1).f0)) ∧ w'.cell? ⟨(ad177.add ((x7_1).toNat * 3)).block, (ad177.add ((x7_1).toNat * 3)).off + 1, none⟩ = some (.int .i64 ((rd_T35 l0 x7_1).f1)) ∧ w'.cell? ⟨(ad177.add ((x7_1).toNat * 3)).block, (ad177.add ((x7_1).toNat * 3)).off + 2, none⟩ = some (.bool ((rd_T35 l0 x7_1).f2))) (ds := []) (onA 14 0) (by kernel_rfl) rfl rfl ⟨((HB.out.cell (World.block_lt_of_cell? w _ hw177_0)).trans hw177_0), ((HB.out.cell (World.block_lt_of_cell? w _ hw177_1)).trans hw177_1), ((HB.out.cell (World.block_lt_of_cell? w _ hw177_2)).trans hw177_2), ((HB.out.cell (World.block_lt_of_cell? w _ hw179_0)).trans hw179_0), ((HB.out.cell (World.block_lt_of_cell? w _ hw179_1)).trans hw179_1), ((HB.out.cell (World.block_lt_of_cell? w _ hw179_2)).trans hw179_2)⟩ (fun hHeld => ?_); refine with_tabW fit_Choose.tab7 fit_Choose.bits7 (fun HT_ HW_ => ?_)
    generalize wr.drew = w18 at HO_14 HB hx177_0 hx177_1 hx177_2 hx179_0 hx179_1 hx179_2 hHeld ⊢
    refine pure_ (i := 0) (N := some 23) (v := ?_) (a' := ?_) (onA 14 1) rfl rfl (any_of HT_.out (by kernel_rfl)) (fun _ _ _ h => h) (Or.inl ⟨by rfl, ?_⟩) ?_ ?_
    rotate_left
    ·
     intro w'
     go_simp
     with_reducible rfl
    rotate_left
    ·
     simp only [Act.put, List.setIfInBounds_toArray, List.set_cons_zero, List.set_cons_succ, i64_w, i32_w]
     rfl
    refine pure_ (i := 1) (N := some 24) (v := ?_) (a' := ?_) (onA 14 2) rfl rfl (any_of HT_.out (by kernel_rfl)) (fun _ _ _ h => h) (Or.inl ⟨by rfl, ?_⟩) ?_ ?_
    rotate_left
    ·
     intro w'
     go_simp
     with_reducible rfl
    rotate_left
    ·
     simp only [Act.put, List.setIfInBounds_toArray, List.set_cons_zero, List.set_cons_succ, i64_w, i32_w]
     rfl
    refine pure_ (i := 2) (N := some 25) (v := ?_) (a' := ?_) (onA 14 3) rfl rfl (any_of HT_.out (by kernel_rfl)) (fun _ _ _ h => h) (Or.inl ⟨by rfl, ?_⟩) ?_ ?_
    rotate_left
    ·
     intro w'
     go_simp
     with_reducible rfl
    rotate_left
    ·
     simp only [Act.put, List.setIfInBounds_toArray, List.set_cons_zero, List.set_cons_succ, i64_w, i32_w]
     rfl
    refine pure_ (i := 4) (N := some 27) (v := ?_) (a' := ?_) #[tt_, tt_, tt_, ff_, tt_, ff_, ff_, ff_, ff_, ff_, ff_, ff_, ff_, ff_] rfl rfl (any_of HT_.out (by kernel_rfl)) (fun _ _ _ h => h) (Or.inl ⟨by rfl, ?_⟩) ?_ ?_
    rotate_left
    ·
     intro w'
     go_simp
     with_reducible rfl
    rotate_left
    ·
     simp only [Act.put, List.setIfInBounds_toArray, List.set_cons_zero, List.set_cons_succ, i64_w, i32_w]
     rfl
    refine pure_ (i := 6) (N := some 29) (v := ?_) (a' := ?_) #[tt_, tt_, tt_, ff_, tt_, ff_, tt_, ff_, ff_, ff_, ff_, ff_, ff_, ff_] rfl rfl (any_of HT_.out (by kernel_rfl)) (fun _ _ _ h => h) (Or.inl ⟨by rfl, ?_⟩) ?_ ?_
    rotate_left
    ·
     intro w'
     go_simp
     with_reducible rfl
    rotate_left
    ·
     simp only [Act.put, List.setIfInBounds_toArray, List.set_cons_zero, List.set_cons_succ, i64_w, i32_w]
     rfl
    refine pure_ (i := 7) (N := some 30) (v := ?_) (a' := ?_) #[tt_, tt_, tt_, ff_, tt_, ff_, tt_, tt_, ff_, ff_, ff_, ff_, ff_, ff_] rfl rfl (any_of HT_.out (by kernel_rfl)) (fun _ _ _ h => h) (Or.inl ⟨by rfl, ?_⟩) ?_ ?_
    rotate_left
    ·
     intro w'
     go_simp
     with_reducible rfl
    rotate_left
    ·
     simp only [Act.put, List.setIfInBounds_toArray, List.set_cons_zero, List.set_cons_succ, i64_w, i32_w]
     rfl
    refine pure_ (i := 8) (N := some 31) (v := ?_) (a' := ?_) #[tt_, tt_, tt_, ff_, tt_, ff_, tt_, tt_, tt_, ff_, ff_, ff_, ff_, ff_] rfl rfl (any_of HT_.out (by kernel_rfl)) (fun _ _ _ h => h) (Or.inl ⟨by rfl, ?_⟩) ?_ ?_
    rotate_left
    ·
     intro w'
     go_simp
     with_reducible rfl
    rotate_left
    ·
     simp only [Act.put, List.setIfInBounds_toArray, List.set_cons_zero, List.set_cons_succ, i64_w, i32_w]
     rfl
    refine pure_ (i := 10) (N := some 33) (v := ?_) (a' := ?_) #[tt_, tt_, tt_, ff_, tt_, ff_, tt_, tt_, tt_, ff_, tt_, ff_, ff_, ff_] rfl rfl (any_of HT_.out (by kernel_rfl)) (fun _ _ _ h => h) (Or.inl ⟨by rfl, ?_⟩) ?_ ?_
    rotate_left
    ·
     intro w'
     go_simp
     with_reducible rfl
    rotate_left
    ·
     simp only [Act.put, List.setIfInBounds_toArray, List.set_cons_zero, List.set_cons_succ, i64_w, i32_w]
     rfl
    refine take_ (i := 3) (N := some 26) (v := ?_) (a' := ?_) #[tt_, tt_, tt_, tt_, tt_, ff_, tt_, tt_, tt_, ff_, tt_, ff_, ff_, ff_] rfl rfl (take_ofW HT_.out HW_.out (by kernel_rfl)) (fun _ _ _ h => h) (Or.inl ⟨by rfl, ?_⟩) hHeld ?_ ?_
    rotate_left
    ·
     rintro w' ⟨s0, s1, s2, s3, s4, s5⟩
     go_simp
     with_reducible rfl
    rotate_left
    ·
     simp only [Act.put, List.setIfInBounds_toArray, List.set_cons_zero, List.set_cons_succ, i64_w, i32_w]
     rfl
    refine take_ (i := 9) (N := some 32) (v := ?_) (a' := ?_) #[tt_, tt_, tt_, tt_, tt_, ff_, tt_, tt_, tt_, tt_, tt_, ff_, ff_, ff_] rfl rfl (take_ofW HT_.out HW_.out (by kernel_rfl)) (fun _ _ _ h => h) (Or.inl ⟨by rfl, ?_⟩) hHeld ?_ ?_
    rotate_left
    ·
     rintro w' ⟨s0, s1, s2, s3, s4, s5⟩
     go_simp
     with_reducible rfl
    rotate_left
    ·
     simp only [Act.put, List.setIfInBounds_toArray, List.set_cons_zero, List.set_cons_succ, i64_w, i32_w]
     rfl
    refine one_ (i := 5) (N := some 28) (onA 14 11) rfl rfl (one_of HT_.out (by kernel_rfl)) (by decide) (fun K hK => ?_)
    refine goes_ Try.func85 (by kernel_rfl) rfl #[.agg #[.int .i64 ((rd_T35 l0 (rd t173 x16_1)).f0), .int .i64 ((rd_T35 l0 (rd t173 x16_1)).f1), .bool ((rd_T35 l0 (rd t173 x16_1)).f2)], .slice A2 l2.length c2] (by rfl) rfl rfl (by (try simp only [List.map_toArray, List.map_cons, List.map_nil]); first | done | rfl | (simp only [List.length_drop, List.length_take]; rfl)) ?_
    with_reducible refine (fit_count.calls ((rd_T35 l0 (rd t173 x16_1)).f0) ((rd_T35 l0 (rd t173 x16_1)).f1) ((rd_T35 l0 (rd t173 x16_1)).f2) _ _ l2 t178 _ ?side1 ?side2 A13.out).mono ?_
    (case side1 => repeat (first | exact (Kd.C_below HR2.out HB.out) | (with_reducible refine Kd.C_alloc ?_ _) | (with_reducible refine Kd.C_drewN ?_ _) | (with_reducible refine Kd.C_drew ?_)))
    (case side2 => exact HC2.out)
    rintro e w19 ⟨rfl, hb⟩
    refine ⟨_, rfl, ?_⟩
    have n0_ := Aside0.mk (Kd.R_below (by (with_reducible repeat (first | apply Kd.R_alloc | apply Kd.R_drewN | apply Kd.R_drew)); exact HO_14.out) hb)
    have n1_ := Aside0.mk (below_step (by repeat (first | (with_reducible first | exact HB.out | apply below_alloc | apply pw_below_drewN | apply below_drew1) | exact HB.out)) hb)
    clear HO_14
    clear HB
    have HO_14 := n0_
    have HB := n1_
    clear n0_ n1_
    (try clear hb)
    (try clear hb2)
    (try clear hk)
    (try clear hi)
    refine hK.out _ _ ⟨((HB.out.cell (World.block_lt_of_cell? w _ hw177_0)).trans hw177_0), ((HB.out.cell (World.block_lt_of_cell? w _ hw177_1)).trans hw177_1), ((HB.out.cell (World.block_lt_of_cell? w _ hw177_2)).trans hw177_2), ((HB.out.cell (World.block_lt_of_cell? w _ hw179_0)).trans hw179_0), ((HB.out.cell (World.block_lt_of_cell? w _ hw179_1)).trans hw179_1), ((HB.out.cell (World.block_lt_of_cell? w _ hw179_2)).trans hw179_2)⟩ (fun hHeld => ?_)
    clear hK K
    refine norm_ (a' := ?_) ?_ ?_
    rotate_left
    ·
     show Act.put _ (some 28) _ = _
     simp only [Act.put, List.setIfInBounds_toArray, List.set_cons_zero, List.set_cons_succ, i64_w, i32_w]
     rfl
    refine one_ (i := 11) (N := some 34) (onA 14 12) rfl rfl (one_of HT_.out (by kernel_rfl)) (by decide) (fun K hK => ?_)
    refine goes_ Try.func85 (by kernel_rfl) rfl #[.agg #[.int .i64 ((rd_T35 l0 x7_1).f0), .int .i64 ((rd_T35 l0 x7_1).f1), .bool ((rd_T35 l0 x7_1).f2)], .slice A2 l2.length c2] (by rfl) rfl rfl (by (try simp only [List.map_toArray, List.map_cons, List.map_nil]); first | done | rfl | (simp only [List.length_drop, List.length_take]; rfl)) ?_
    with_reducible refine (fit_count.calls ((rd_T35 l0 x7_1).f0) ((rd_T35 l0 x7_1).f1) ((rd_T35 l0 x7_1).f2) _ _ l2 t180 _ ?side1 ?side2 A16.out).mono ?_
    (case side1 => repeat (first | exact (Kd.C_below HR2.out HB.out) | (with_reducible refine Kd.C_alloc ?_ _) | (with_reducible refine Kd.C_drewN ?_ _) | (with_reducible refine Kd.C_drew ?_)))
    (case side2 => exact HC2.out)
    rintro e w20 ⟨rfl, hb⟩
    refine ⟨_, rfl, ?_⟩
    have n0_ := Aside0.mk (Kd.R_below (by (with_reducible repeat (first | apply Kd.R_alloc | apply Kd.R_drewN | apply Kd.R_drew)); exact HO_14.out) hb)
    have n1_ := Aside0.mk (below_step (by repeat (first | (with_reducible first | exact HB.out | apply below_alloc | apply pw_below_drewN | apply below_drew1) | exact HB.out)) hb)
    clear HO_14
    clear HB
    have HO_14 := n0_
    have HB := n1_
    clear n0_ n1_
    (try clear hb)
    (try clear hb2)
    (try clear hk)
    (try clear hi)
    refine hK.out _ _ ⟨((HB.out.cell (World.block_lt_of_cell? w _ hw177_0)).trans hw177_0), ((HB.out.cell (World.block_lt_of_cell? w _ hw177_1)).trans hw177_1), ((HB.out.cell (World.block_lt_of_cell? w _ hw177_2)).trans hw177_2), ((HB.out.cell (World.block_lt_of_cell? w _ hw179_0)).trans hw179_0), ((HB.out.cell (World.block_lt_of_cell? w _ hw179_1)).trans hw179_1), ((HB.out.cell (World.block_lt_of_cell? w _ hw179_2)).trans hw179_2)⟩ (fun hHeld => ?_)
    clear hK K
    refine norm_ (a' := ?_) ?_ ?_
    rotate_left
    ·
     show Act.put _ (some 34) _ = _
     simp only [Act.put, List.setIfInBounds_toArray, List.set_cons_zero, List.set_cons_succ, i64_w, i32_w]
     rfl
    refine pure_ (i := 12) (N := some 10) (v := ?_) (a' := ?_) (onA 14 13) rfl rfl (any_of HT_.out (by kernel_rfl)) (fun _ _ _ h => h) (Or.inl ⟨by rfl, ?_⟩) ?_ ?_
    rotate_left
    ·
     intro w'
     go_simp
     with_reducible rfl
    rotate_left
    ·
     simp only [Act.put, List.setIfInBounds_toArray, List.set_cons_zero, List.set_cons_succ, i64_w, i32_w]
     rfl
    refine pure_ (i := 13) (N := some 11) (v := ?_) (a' := ?_) (onA 14 14) rfl rfl (any_of HT_.out (by kernel_rfl)) (fun _ _ _ h => h) (Or.inl ⟨by rfl, ?_⟩) ?_ ?_
    rotate_left
    ·
     intro w'
     go_simp
     with_reducible rfl
    rotate_left
    ·
     simp only [Act.put, List.setIfInBounds_toArray, List.set_cons_zero, List.set_cons_succ, i64_w, i32_w]
     rfl
    refine done_ (done_of HT_.out (by kernel_rfl)) ?_
    try go_wp2
    have n0_ := Aside0.mk (Kd.R_drew HO_14.out)
    have n1_ := Aside0.mk (below_drew1 HB.out)
    clear HO_14
    clear HB
    have HO_14 := n0_
    have HB := n1_
    clear n0_ n1_
    refine start_ (n := 21) (S := fun w' => True) (ds := []) (onA 21 0) (by kernel_rfl) rfl rfl trivial (fun hHeld => ?_); refine with_tabW fit_Choose.tab8 fit_Choose.bits8 (fun HT_ HW_ => ?_)
    generalize w20.drew = w21 at HO_14 HB hHeld ⊢
    refine pure_ (i := 0) (N := some 35) (v := ?_) (a' := ?_) (onA 21 1) rfl rfl (any_of HT_.out (by kernel_rfl)) (fun _ _ _ h => h) (Or.inl ⟨by rfl, ?_⟩) ?_ ?_
    rotate_left
    ·
     intro w'
     go_simp
     with_reducible rfl
    rotate_left
    ·
     simp only [Act.put, List.setIfInBounds_toArray, List.set_cons_zero, List.set_cons_succ, i64_w, i32_w]
     rfl
    refine pure_ (i := 1) (N := some 36) (v := ?_) (a' := ?_) (onA 21 2) rfl rfl (any_of HT_.out (by kernel_rfl)) (fun _ _ _ h => h) (Or.inl ⟨by rfl, ?_⟩) ?_ ?_
    rotate_left
    ·
     intro w'
     go_simp
     with_reducible rfl
    rotate_left
    ·
     simp only [Act.put, List.setIfInBounds_toArray, List.set_cons_zero, List.set_cons_succ, i64_w, i32_w]
     rfl
    refine pure_ (i := 2) (N := some 37) (v := ?_) (a' := ?_) (onA 21 3) rfl rfl (any_of HT_.out (by kernel_rfl)) (fun _ _ _ h => h) (Or.inl ⟨by rfl, ?_⟩) ?_ ?_
    rotate_left
    ·
     intro w'
     go_simp
     with_reducible rfl
    rotate_left
    ·
     simp only [Act.put, List.setIfInBounds_toArray, List.set_cons_zero, List.set_cons_succ, i64_w, i32_w]
     rfl
    refine pure_ (i := 3) (N := some 38) (v := ?_) (a' := ?_) (onA 21 4) rfl rfl (any_of HT_.out (by kernel_rfl)) (fun _ _ _ h => h) (Or.inl ⟨by rfl, ?_⟩) ?_ ?_
    rotate_left
    ·
     intro w'
     go_simp
     with_reducible rfl
    rotate_left
    ·
     simp only [Act.put, List.setIfInBounds_toArray, List.set_cons_zero, List.set_cons_succ, i64_w, i32_w]
     rfl
    refine pure_ (i := 4) (N := some 39) (v := undef) (a' := ?_) (onA 21 5) rfl rfl (any_of HT_.out (by kernel_rfl)) (fun _ _ _ h => h) (Or.inr ⟨by rfl, rfl⟩) ?_ ?_
    rotate_left
    ·
     simp only [Act.put, List.setIfInBounds_toArray, List.set_cons_zero, List.set_cons_succ, i64_w, i32_w]
     rfl
    refine pure_ (i := 5) (N := some 40) (v := undef) (a' := ?_) (onA 21 6) rfl rfl (any_of HT_.out (by kernel_rfl)) (fun _ _ _ h => h) (Or.inr ⟨by rfl, rfl⟩) ?_ ?_
    rotate_left
    ·
     simp only [Act.put, List.setIfInBounds_toArray, List.set_cons_zero, List.set_cons_succ, i64_w, i32_w]
     rfl
    refine pure_ (i := 6) (N := some 41) (v := undef) (a' := ?_) (onA 21 7) rfl rfl (any_of HT_.out (by kernel_rfl)) (fun _ _ _ h => h) (Or.inr ⟨by rfl, rfl⟩) ?_ ?_
    rotate_left
    ·
     simp only [Act.put, List.setIfInBounds_toArray, List.set_cons_zero, List.set_cons_succ, i64_w, i32_w]
     rfl
    refine pure_ (i := 7) (N := some 42) (v := undef) (a' := ?_) (onA 21 8) rfl rfl (any_of HT_.out (by kernel_rfl)) (fun _ _ _ h => h) (Or.inr ⟨by rfl, rfl⟩) ?_ ?_
    rotate_left
    ·
     simp only [Act.put, List.setIfInBounds_toArray, List.set_cons_zero, List.set_cons_succ, i64_w, i32_w]
     rfl
    refine pure_ (i := 8) (N := some 43) (v := undef) (a' := ?_) (onA 21 9) rfl rfl (any_of HT_.out (by kernel_rfl)) (fun _ _ _ h => h) (Or.inr ⟨by rfl, rfl⟩) ?_ ?_
    rotate_left
    ·
     simp only [Act.put, List.setIfInBounds_toArray, List.set_cons_zero, List.set_cons_succ, i64_w, i32_w]
     rfl
    refine pure_ (i := 9) (N := some 44) (v := undef) (a' := ?_) (onA 21 10) rfl rfl (any_of HT_.out (by kernel_rfl)) (fun _ _ _ h => h) (Or.inr ⟨by rfl, rfl⟩) ?_ ?_
    rotate_left
    ·
     simp only [Act.put, List.setIfInBounds_toArray, List.set_cons_zero, List.set_cons_succ, i64_w, i32_w]
     rfl
    refine pure_ (i := 10) (N := some 45) (v := undef) (a' := ?_) (onA 21 11) rfl rfl (any_of HT_.out (by kernel_rfl)) (fun _ _ _ h => h) (Or.inr ⟨by rfl, rfl⟩) ?_ ?_
    rotate_left
    ·
     simp only [Act.put, List.setIfInBounds_toArray, List.set_cons_zero, List.set_cons_succ, i64_w, i32_w]
     rfl
    refine pure_ (i := 11) (N := some 46) (v := undef) (a' := ?_) (onA 21 12) rfl rfl (any_of HT_.out (by kernel_rfl)) (fun _ _ _ h => h) (Or.inr ⟨by rfl, rfl⟩) ?_ ?_
    rotate_left
    ·
     simp only [Act.put, List.setIfInBounds_toArray, List.set_cons_zero, List.set_cons_succ, i64_w, i32_w]
     rfl
    refine pure_ (i := 12) (N := some 47) (v := undef) (a' := ?_) (onA 21 13) rfl rfl (any_of HT_.out (by kernel_rfl)) (fun _ _ _ h => h) (Or.inr ⟨by rfl, rfl⟩) ?_ ?_
    rotate_left
    ·
     simp only [Act.put, List.setIfInBounds_toArray, List.set_cons_zero, List.set_cons_succ, i64_w, i32_w]
     rfl
    refine pure_ (i := 13) (N := some 48) (v := undef) (a' := ?_) (onA 21 14) rfl rfl (any_of HT_.out (by kernel_rfl)) (fun _ _ _ h => h) (Or.inr ⟨by rfl, rfl⟩) ?_ ?_
    rotate_left
    ·
     simp only [Act.put, List.setIfInBounds_toArray, List.set_cons_zero, List.set_cons_succ, i64_w, i32_w]
     rfl
    refine pure_ (i := 14) (N := some 49) (v := undef) (a' := ?_) (onA 21 15) rfl rfl (any_of HT_.out (by kernel_rfl)) (fun _ _ _ h => h) (Or.inr ⟨by rfl, rfl⟩) ?_ ?_
    rotate_left
    ·
     simp only [Act.put, List.setIfInBounds_toArray, List.set_cons_zero, List.set_cons_succ, i64_w, i32_w]
     rfl
    refine pure_ (i := 15) (N := some 50) (v := undef) (a' := ?_) (onA 21 16) rfl rfl (any_of HT_.out (by kernel_rfl)) (fun _ _ _ h => h) (Or.inr ⟨by rfl, rfl⟩) ?_ ?_
    rotate_left
    ·
     simp only [Act.put, List.setIfInBounds_toArray, List.set_cons_zero, List.set_cons_succ, i64_w, i32_w]
     rfl
    refine pure_ (i := 16) (N := some 51) (v := undef) (a' := ?_) (onA 21 17) rfl rfl (any_of HT_.out (by kernel_rfl)) (fun _ _ _ h => h) (Or.inr ⟨by rfl, rfl⟩) ?_ ?_
    rotate_left
    ·
     simp only [Act.put, List.setIfInBounds_toArray, List.set_cons_zero, List.set_cons_succ, i64_w, i32_w]
     rfl
    refine pure_ (i := 17) (N := some 52) (v := undef) (a' := ?_) (onA 21 18) rfl rfl (any_of HT_.out (by kernel_rfl)) (fun _ _ _ h => h) (Or.inr ⟨by rfl, rfl⟩) ?_ ?_
    rotate_left
    ·
     simp only [Act.put, List.setIfInBounds_toArray, List.set_cons_zero, List.set_cons_succ, i64_w, i32_w]
     rfl
    refine pure_ (i := 18) (N := some 53) (v := undef) (a' := ?_) (onA 21 19) rfl rfl (any_of HT_.out (by kernel_rfl)) (fun _ _ _ h => h) (Or.inr ⟨by rfl, rfl⟩) ?_ ?_
    rotate_left
    ·
     simp only [Act.put, List.setIfInBounds_toArray, List.set_cons_zero, List.set_cons_succ, i64_w, i32_w]
     rfl
    refine pure_ (i := 19) (N := some 54) (v := undef) (a' := ?_) (onA 21 20) rfl rfl (any_of HT_.out (by kernel_rfl)) (fun _ _ _ h => h) (Or.inr ⟨by rfl, rfl⟩) ?_ ?_
    rotate_left
    ·
     simp only [Act.put, List.setIfInBounds_toArray, List.set_cons_zero, List.set_cons_succ, i64_w, i32_w]
     rfl
    refine pure_ (i := 20) (N := some 55) (v := ?_) (a' := ?_) (onA 21 21) rfl rfl (any_of HT_.out (by kernel_rfl)) (fun _ _ _ h => h) (Or.inl ⟨by rfl, ?_⟩) ?_ ?_
    rotate_left
    ·
     intro w'
     go_simp
     with_reducible rfl
    rotate_left
    ·
     simp only [Act.put, List.setIfInBounds_toArray, List.set_cons_zero, List.set_cons_succ, i64_w, i32_w]
     rfl
    refine done_ (done_of HT_.out (by kernel_rfl)) ?_
    try go_wp2
    go_roundg k1
    case measure => have := HK1.out; omega
    case rel => exact ⟨(rd t173 x16_1), (wrap64 (x16_1 + 1)), (by first | rfl | (simp; done) | (simp [*]; done)), (by first | rfl | (simp; done) | (simp [*]; done)), H', ⟨by have := HK1.out; omega⟩, ⟨by (with_reducible repeat (first | apply Kd.R_alloc | apply Kd.R_drewN | apply Kd.R_drew)); exact HO_14.out⟩, ⟨by repeat (first | (with_reducible first | exact HB.out | apply below_alloc | apply pw_below_drewN | apply below_drew1) | exact HB.out)⟩⟩
   rw [if_neg c17] at H
   have c17b0 : decide (t178 < t180) = false := decide_eq_false c17
   clear c17
   by_cases c22 : t178 = t180
   rotate_left
   ·
    rw [if_neg c22] at H
    have c22b0 : (t178 == t180) = false := beq_eq_false_iff_ne.mpr c22
    have c22b1 : (t178 != t180) = true := bne_iff_ne.mpr c22
    have H' := Aside0.mk H
    clear H
    have p176 : 0 ≤ (x16_1 : Int) := of_decide_eq_true (by first | (with_reducible assumption) | assumption)
    have q176 : x16_1 < (t173.length : Int) := of_decide_eq_true (by first | (with_reducible assumption) | assumption)
    obtain ⟨ad176, e176, hx176_0⟩ := Kd.at_int (Kd.R_reads' HO_14.out).2.2 x16_1 p176 q176
    cases e176
    replace p176 := eq_true p176
    replace q176 := eq_true q176
    try go_wp2
    have n0_ := Aside0.mk (Kd.R_drew HO_14.out)
    have n1_ := Aside0.mk (below_drew1 HB.out)
    clear HO_14
    clear HB
    have HO_14 := n0_
    have HB := n1_
    clear n0_ n1_
    have p177 : 0 ≤ ((rd t173 x16_1) : Int) := of_decide_eq_true (by first | (with_reducible assumption) | assumption)
    have q177 : (rd t173 x16_1) < (l0.length : Int) := of_decide_eq_true (by first | (with_reducible assumption) | assumption)
    obtain ⟨ad177, e177, hx177_0, hx177_1, hx177_2⟩ := at_T35 HR0.out (rd t173 x16_1) p177 q177
    have hw177_2 := hx177_2
    have hw177_1 := hx177_1
    have hw177_0 := hx177_0
    cases e177
    replace hx177_0 := (HB.out.cell (World.block_lt_of_cell? w _ hx177_0)).trans hx177_0
    replace hx177_1 := (HB.out.cell (World.block_lt_of_cell? w _ hx177_1)).trans hx177_1
    replace hx177_2 := (HB.out.cell (World.block_lt_of_cell? w _ hx177_2)).trans hx177_2
    replace p177 := eq_true p177
    replace q177 := eq_true q177
    have p179 : 0 ≤ (x7_1 : Int) := of_decide_eq_true (by first | (with_reducible assumption) | assumption)
    have q179 : x7_1 < (l0.length : Int) := of_decide_eq_true (by first | (with_reducible assumption) | assumption)
    obtain ⟨ad179, e179, hx179_0, hx179_1, hx179_2⟩ := at_T35 HR0.out x7_1 p179 q179
    have hw179_2 := hx179_2
    have hw179_1 := hx179_1
    have hw179_0 := hx179_0
    obtain rfl : ad177 = ad179 := (by injection e179)
    replace hx179_0 := (HB.out.cell (World.block_lt_of_cell? w _ hx179_0)).trans hx179_0
    replace hx179_1 := (HB.out.cell (World.block_lt_of_cell? w _ hx179_1)).trans hx179_1
    replace hx179_2 := (HB.out.cell (World.block_lt_of_cell? w _ hx179_2)).trans hx179_2
    replace p179 := eq_true p179
    replace q179 := eq_true q179
    refine start_ (n := 14) (S := fun w' => w'.cell? (ad177.add (((rd t173 x16_1)).toNat * 3)) = some (.int .i64 ((rd_T35 l0 (rd t173 x16_1)).f0)) ∧ w'.cell? ⟨(ad177.add (((rd t173 x16_1)).toNat * 3)).block, (ad177.add (((rd t173 x16_1)).toNat * 3)).off + 1, none⟩ = some (.int .i64 ((rd_T35 l0 (rd t173 x16_1)).f1)) ∧ w'.cell? ⟨(ad177.add (((rd t173 x16_1)).toNat * 3)).block, (ad177.add (((rd t173 x16_1)).toNat * 3)).off + 2, none⟩ = some (.bool ((rd_T35 l0 (rd t173 x16_1)).f2)) ∧ w'.cell? (ad177.add ((x7_1).toNat * 3)) = some (.int .i64 ((rd_T35 l0 x7_1).f0)) ∧ w'.cell? ⟨(ad177.add ((x7_1).toNat * 3)).block, (ad177.add ((x7_1).toNat * 3)).off + 1, none⟩ = some (.int .i64 ((rd_T35 l0 x7_1).f1)) ∧ w'.cell? ⟨(ad177.add ((x7_1).toNat * 3)).block, (ad177.add ((x7_1).toNat * 3)).off + 2, none⟩ = some (.bool ((rd_T35 l0 x7_1).f2))) (ds := []) (onA 14 0) (by kernel_rfl) rfl rfl ⟨((HB.out.cell (World.block_lt_of_cell? w _ hw177_0)).trans hw177_0), ((HB.out.cell (World.block_lt_of_cell? w _ hw177_1)).trans hw177_1), ((HB.out.cell (World.block_lt_of_cell? w _ hw177_2)).trans hw177_2), ((HB.out.cell (World.block_lt_of_cell? w _ hw179_0)).trans hw179_0), ((HB.out.cell (World.block_lt_of_cell? w _ hw179_1)).trans hw179_1), ((HB.out.cell (World.block_lt_of_cell? w _ hw179_2)).trans hw179_2)⟩ (fun hHeld => ?_); refine with_tabW fit_Choose.tab7 fit_Choose.bits7 (fun HT_ HW_ => ?_)
    generalize wr.drew = w32 at HO_14 HB hx177_0 hx177_1 hx177_2 hx179_0 hx179_1 hx179_2 hHeld ⊢
    refine pure_ (i := 0) (N := some 23) (v := ?_) (a' := ?_) (onA 14 1) rfl rfl (any_of HT_.out (by kernel_rfl)) (fun _ _ _ h => h) (Or.inl ⟨by rfl, ?_⟩) ?_ ?_
    rotate_left
    ·
     intro w'
     go_simp
     with_reducible rfl
    rotate_left
    ·
     simp only [Act.put, List.setIfInBounds_toArray, List.set_cons_zero, List.set_cons_succ, i64_w, i32_w]
     rfl
    refine pure_ (i := 1) (N := some 24) (v := ?_) (a' := ?_) (onA 14 2) rfl rfl (any_of HT_.out (by kernel_rfl)) (fun _ _ _ h => h) (Or.inl ⟨by rfl, ?_⟩) ?_ ?_
    rotate_left
    ·
     intro w'
     go_simp
     with_reducible rfl
    rotate_left
    ·
     simp only [Act.put, List.setIfInBounds_toArray, List.set_cons_zero, List.set_cons_succ, i64_w, i32_w]
     rfl
    refine pure_ (i := 2) (N := some 25) (v := ?_) (a' := ?_) (onA 14 3) rfl rfl (any_of HT_.out (by kernel_rfl)) (fun _ _ _ h => h) (Or.inl ⟨by rfl, ?_⟩) ?_ ?_
    rotate_left
    ·
     intro w'
     go_simp
     with_reducible rfl
    rotate_left
    ·
     simp only [Act.put, List.setIfInBounds_toArray, List.set_cons_zero, List.set_cons_succ, i64_w, i32_w]
     rfl
    refine pure_ (i := 4) (N := some 27) (v := ?_) (a' := ?_) #[tt_, tt_, tt_, ff_, tt_, ff_, ff_, ff_, ff_, ff_, ff_, ff_, ff_, ff_] rfl rfl (any_of HT_.out (by kernel_rfl)) (fun _ _ _ h => h) (Or.inl ⟨by rfl, ?_⟩) ?_ ?_
    rotate_left
    ·
     intro w'
     go_simp
     with_reducible rfl
    rotate_left
    ·
     simp only [Act.put, List.setIfInBounds_toArray, List.set_cons_zero, List.set_cons_succ, i64_w, i32_w]
     rfl
    refine pure_ (i := 6) (N := some 29) (v := ?_) (a' := ?_) #[tt_, tt_, tt_, ff_, tt_, ff_, tt_, ff_, ff_, ff_, ff_, ff_, ff_, ff_] rfl rfl (any_of HT_.out (by kernel_rfl)) (fun _ _ _ h => h) (Or.inl ⟨by rfl, ?_⟩) ?_ ?_
    rotate_left
    ·
     intro w'
     go_simp
     with_reducible rfl
    rotate_left
    ·
     simp only [Act.put, List.setIfInBounds_toArray, List.set_cons_zero, List.set_cons_succ, i64_w, i32_w]
     rfl
    refine pure_ (i := 7) (N := some 30) (v := ?_) (a' := ?_) #[tt_, tt_, tt_, ff_, tt_, ff_, tt_, tt_, ff_, ff_, ff_, ff_, ff_, ff_] rfl rfl (any_of HT_.out (by kernel_rfl)) (fun _ _ _ h => h) (Or.inl ⟨by rfl, ?_⟩) ?_ ?_
    rotate_left
    ·
     intro w'
     go_simp
     with_reducible rfl
    rotate_left
    ·
     simp only [Act.put, List.setIfInBounds_toArray, List.set_cons_zero, List.set_cons_succ, i64_w, i32_w]
     rfl
    refine pure_ (i := 8) (N := some 31) (v := ?_) (a' := ?_) #[tt_, tt_, tt_, ff_, tt_, ff_, tt_, tt_, tt_, ff_, ff_, ff_, ff_, ff_] rfl rfl (any_of HT_.out (by kernel_rfl)) (fun _ _ _ h => h) (Or.inl ⟨by rfl, ?_⟩) ?_ ?_
    rotate_left
    ·
     intro w'
     go_simp
     with_reducible rfl
    rotate_left
    ·
     simp only [Act.put, List.setIfInBounds_toArray, List.set_cons_zero, List.set_cons_succ, i64_w, i32_w]
     rfl
    refine pure_ (i := 10) (N := some 33) (v := ?_) (a' := ?_) #[tt_, tt_, tt_, ff_, tt_, ff_, tt_, tt_, tt_, ff_, tt_, ff_, ff_, ff_] rfl rfl (any_of HT_.out (by kernel_rfl)) (fun _ _ _ h => h) (Or.inl ⟨by rfl, ?_⟩) ?_ ?_
    rotate_left
    ·
     intro w'
     go_simp
     with_reducible rfl
    rotate_left
    ·
     simp only [Act.put, List.setIfInBounds_toArray, List.set_cons_zero, List.set_cons_succ, i64_w, i32_w]
     rfl
    refine take_ (i := 3) (N := some 26) (v := ?_) (a' := ?_) #[tt_, tt_, tt_, tt_, tt_, ff_, tt_, tt_, tt_, ff_, tt_, ff_, ff_, ff_] rfl rfl (take_ofW HT_.out HW_.out (by kernel_rfl)) (fun _ _ _ h => h) (Or.inl ⟨by rfl, ?_⟩) hHeld ?_ ?_
    rotate_left
    ·
     rintro w' ⟨s0, s1, s2, s3, s4, s5⟩
     go_simp
     with_reducible rfl
    rotate_left
    ·
     simp only [Act.put, List.setIfInBounds_toArray, List.set_cons_zero, List.set_cons_succ, i64_w, i32_w]
     rfl
    refine take_ (i := 9) (N := some 32) (v := ?_) (a' := ?_) #[tt_, tt_, tt_, tt_, tt_, ff_, tt_, tt_, tt_, tt_, tt_, ff_, ff_, ff_] rfl rfl (take_ofW HT_.out HW_.out (by kernel_rfl)) (fun _ _ _ h => h) (Or.inl ⟨by rfl, ?_⟩) hHeld ?_ ?_
    rotate_left
    ·
     rintro w' ⟨s0, s1, s2, s3, s4, s5⟩
     go_simp
     with_reducible rfl
    rotate_left
    ·
     simp only [Act.put, List.setIfInBounds_toArray, List.set_cons_zero, List.set_cons_succ, i64_w, i32_w]
     rfl
    refine one_ (i := 5) (N := some 28) (onA 14 11) rfl rfl (one_of HT_.out (by kernel_rfl)) (by decide) (fun K hK => ?_)
    refine goes_ Try.func85 (by kernel_rfl) rfl #[.agg #[.int .i64 ((rd_T35 l0 (rd t173 x16_1)).f0), .int .i64 ((rd_T35 l0 (rd t173 x16_1)).f1), .bool ((rd_T35 l0 (rd t173 x16_1)).f2)], .slice A2 l2.length c2] (by rfl) rfl rfl (by (try simp only [List.map_toArray, List.map_cons, List.map_nil]); first | done | rfl | (simp only [List.length_drop, List.length_take]; rfl)) ?_
    with_reducible refine (fit_count.calls ((rd_T35 l0 (rd t173 x16_1)).f0) ((rd_T35 l0 (rd t173 x16_1)).f1) ((rd_T35 l0 (rd t173 x16_1)).f2) _ _ l2 t178 _ ?side1 ?side2 A13.out).mono ?_
    (case side1 => repeat (first | exact (Kd.C_below HR2.out HB.out) | (with_reducible refine Kd.C_alloc ?_ _) | (with_reducible refine Kd.C_drewN ?_ _) | (with_reducible refine Kd.C_drew ?_)))
    (case side2 => exact HC2.out)
    rintro e w33 ⟨rfl, hb⟩
    refine ⟨_, rfl, ?_⟩
    have n0_ := Aside0.mk (Kd.R_below (by (with_reducible repeat (first | apply Kd.R_alloc | apply Kd.R_drewN | apply Kd.R_drew)); exact HO_14.out) hb)
    have n1_ := Aside0.mk (below_step (by repeat (first | (with_reducible first | exact HB.out | apply below_alloc | apply pw_below_drewN | apply below_drew1) | exact HB.out)) hb)
    clear HO_14
    clear HB
    have HO_14 := n0_
    have HB := n1_
    clear n0_ n1_
    (try clear hb)
    (try clear hb2)
    (try clear hk)
    (try clear hi)
    refine hK.out _ _ ⟨((HB.out.cell (World.block_lt_of_cell? w _ hw177_0)).trans hw177_0), ((HB.out.cell (World.block_lt_of_cell? w _ hw177_1)).trans hw177_1), ((HB.out.cell (World.block_lt_of_cell? w _ hw177_2)).trans hw177_2), ((HB.out.cell (World.block_lt_of_cell? w _ hw179_0)).trans hw179_0), ((HB.out.cell (World.block_lt_of_cell? w _ hw179_1)).trans hw179_1), ((HB.out.cell (World.block_lt_of_cell? w _ hw179_2)).trans hw179_2)⟩ (fun hHeld => ?_)
    clear hK K
    refine norm_ (a' := ?_) ?_ ?_
    rotate_left
    ·
     show Act.put _ (some 28) _ = _
     simp only [Act.put, List.setIfInBounds_toArray, List.set_cons_zero, List.set_cons_succ, i64_w, i32_w]
     rfl
    refine one_ (i := 11) (N := some 34) (onA 14 12) rfl rfl (one_of HT_.out (by kernel_rfl)) (by decide) (fun K hK => ?_)
    refine goes_ Try.func85 (by kernel_rfl) rfl #[.agg #[.int .i64 ((rd_T35 l0 x7_1).f0), .int .i64 ((rd_T35 l0 x7_1).f1), .bool ((rd_T35 l0 x7_1).f2)], .slice A2 l2.length c2] (by rfl) rfl rfl (by (try simp only [List.map_toArray, List.map_cons, List.map_nil]); first | done | rfl | (simp only [List.length_drop, List.length_take]; rfl)) ?_
    with_reducible refine (fit_count.calls ((rd_T35 l0 x7_1).f0) ((rd_T35 l0 x7_1).f1) ((rd_T35 l0 x7_1).f2) _ _ l2 t180 _ ?side1 ?side2 A16.out).mono ?_
    (case side1 => repeat (first | exact (Kd.C_below HR2.out HB.out) | (with_reducible refine Kd.C_alloc ?_ _) | (with_reducible refine Kd.C_drewN ?_ _) | (with_reducible refine Kd.C_drew ?_)))
    (case side2 => exact HC2.out)
    rintro e w34 ⟨rfl, hb⟩
    refine ⟨_, rfl, ?_⟩
    have n0_ := Aside0.mk (Kd.R_below (by (with_reducible repeat (first | apply Kd.R_alloc | apply Kd.R_drewN | apply Kd.R_drew)); exact HO_14.out) hb)
    have n1_ := Aside0.mk (below_step (by repeat (first | (with_reducible first | exact HB.out | apply below_alloc | apply pw_below_drewN | apply below_drew1) | exact HB.out)) hb)
    clear HO_14
    clear HB
    have HO_14 := n0_
    have HB := n1_
    clear n0_ n1_
    (try clear hb)
    (try clear hb2)
    (try clear hk)
    (try clear hi)
    refine hK.out _ _ ⟨((HB.out.cell (World.block_lt_of_cell? w _ hw177_0)).trans hw177_0), ((HB.out.cell (World.block_lt_of_cell? w _ hw177_1)).trans hw177_1), ((HB.out.cell (World.block_lt_of_cell? w _ hw177_2)).trans hw177_2), ((HB.out.cell (World.block_lt_of_cell? w _ hw179_0)).trans hw179_0), ((HB.out.cell (World.block_lt_of_cell? w _ hw179_1)).trans hw179_1), ((HB.out.cell (World.block_lt_of_cell? w _ hw179_2)).trans hw179_2)⟩ (fun hHeld => ?_)
    clear hK K
    refine norm_ (a' := ?_) ?_ ?_
    rotate_left
    ·
     show Act.put _ (some 34) _ = _
     simp only [Act.put, List.setIfInBounds_toArray, List.set_cons_zero, List.set_cons_succ, i64_w, i32_w]
     rfl
    refine pure_ (i := 12) (N := some 10) (v := ?_) (a' := ?_) (onA 14 13) rfl rfl (any_of HT_.out (by kernel_rfl)) (fun _ _ _ h => h) (Or.inl ⟨by rfl, ?_⟩) ?_ ?_
    rotate_left
    ·
     intro w'
     go_simp
     with_reducible rfl
    rotate_left
    ·
     simp only [Act.put, List.setIfInBounds_toArray, List.set_cons_zero, List.set_cons_succ, i64_w, i32_w]
     rfl
    refine pure_ (i := 13) (N := some 11) (v := ?_) (a' := ?_) (onA 14 14) rfl rfl (any_of HT_.out (by kernel_rfl)) (fun _ _ _ h => h) (Or.inl ⟨by rfl, ?_⟩) ?_ ?_
    rotate_left
    ·
     intro w'
     go_simp
     with_reducible rfl
    rotate_left
    ·
     simp only [Act.put, List.setIfInBounds_toArray, List.set_cons_zero, List.set_cons_succ, i64_w, i32_w]
     rfl
    refine done_ (done_of HT_.out (by kernel_rfl)) ?_
    try go_wp2
    have n0_ := Aside0.mk (Kd.R_drew HO_14.out)
    have n1_ := Aside0.mk (below_drew1 HB.out)
    clear HO_14
    clear HB
    have HO_14 := n0_
    have HB := n1_
    clear n0_ n1_
    refine start_ (n := 21) (S := fun w' => True) (ds := []) (onA 21 0) (by kernel_rfl) rfl rfl trivial (fun hHeld => ?_); refine with_tabW fit_Choose.tab8 fit_Choose.bits8 (fun HT_ HW_ => ?_)
    generalize w34.drew = w35 at HO_14 HB hHeld ⊢
    refine pure_ (i := 0) (N := some 35) (v := ?_) (a' := ?_) (onA 21 1) rfl rfl (any_of HT_.out (by kernel_rfl)) (fun _ _ _ h => h) (Or.inl ⟨by rfl, ?_⟩) ?_ ?_
    rotate_left
    ·
     intro w'
     go_simp
     with_reducible rfl
    rotate_left
    ·
     simp only [Act.put, List.setIfInBounds_toArray, List.set_cons_zero, List.set_cons_succ, i64_w, i32_w]
     rfl
    refine pure_ (i := 1) (N := some 36) (v := ?_) (a' := ?_) (onA 21 2) rfl rfl (any_of HT_.out (by kernel_rfl)) (fun _ _ _ h => h) (Or.inl ⟨by rfl, ?_⟩) ?_ ?_
    rotate_left
    ·
     intro w'
     go_simp
     with_reducible rfl
    rotate_left
    ·
     simp only [Act.put, List.setIfInBounds_toArray, List.set_cons_zero, List.set_cons_succ, i64_w, i32_w]
     rfl
    refine pure_ (i := 2) (N := some 37) (v := ?_) (a' := ?_) (onA 21 3) rfl rfl (any_of HT_.out (by kernel_rfl)) (fun _ _ _ h => h) (Or.inl ⟨by rfl, ?_⟩) ?_ ?_
    rotate_left
    ·
     intro w'
     go_simp
     with_reducible rfl
    rotate_left
    ·
     simp only [Act.put, List.setIfInBounds_toArray, List.set_cons_zero, List.set_cons_succ, i64_w, i32_w]
     rfl
    refine pure_ (i := 3) (N := some 38) (v := ?_) (a' := ?_) (onA 21 4) rfl rfl (any_of HT_.out (by kernel_rfl)) (fun _ _ _ h => h) (Or.inl ⟨by rfl, ?_⟩) ?_ ?_
    rotate_left
    ·
     intro w'
     go_simp
     with_reducible rfl
    rotate_left
    ·
     simp only [Act.put, List.setIfInBounds_toArray, List.set_cons_zero, List.set_cons_succ, i64_w, i32_w]
     rfl
    refine pure_ (i := 4) (N := some 39) (v := ?_) (a' := ?_) (onA 21 5) rfl rfl (any_of HT_.out (by kernel_rfl)) (fun _ _ _ h => h) (Or.inl ⟨by rfl, ?_⟩) ?_ ?_
    rotate_left
    ·
     intro w'
     go_simp
     with_reducible rfl
    rotate_left
    ·
     simp only [Act.put, List.setIfInBounds_toArray, List.set_cons_zero, List.set_cons_succ, i64_w, i32_w]
     rfl
    refine pure_ (i := 5) (N := some 40) (v := ?_) (a' := ?_) (onA 21 6) rfl rfl (any_of HT_.out (by kernel_rfl)) (fun _ _ _ h => h) (Or.inl ⟨by rfl, ?_⟩) ?_ ?_
    rotate_left
    ·
     intro w'
     go_simp
     with_reducible rfl
    rotate_left
    ·
     simp only [Act.put, List.setIfInBounds_toArray, List.set_cons_zero, List.set_cons_succ, i64_w, i32_w]
     rfl
    refine pure_ (i := 6) (N := some 41) (v := ?_) (a' := ?_) (onA 21 7) rfl rfl (any_of HT_.out (by kernel_rfl)) (fun _ _ _ h => h) (Or.inl ⟨by rfl, ?_⟩) ?_ ?_
    rotate_left
    ·
     intro w'
     go_simp
     with_reducible rfl
    rotate_left
    ·
     simp only [Act.put, List.setIfInBounds_toArray, List.set_cons_zero, List.set_cons_succ, i64_w, i32_w]
     rfl
    refine pure_ (i := 7) (N := some 42) (v := ?_) (a' := ?_) (onA 21 8) rfl rfl (any_of HT_.out (by kernel_rfl)) (fun _ _ _ h => h) (Or.inl ⟨by rfl, ?_⟩) ?_ ?_
    rotate_left
    ·
     intro w'
     go_simp
     with_reducible rfl
    rotate_left
    ·
     simp only [Act.put, List.setIfInBounds_toArray, List.set_cons_zero, List.set_cons_succ, i64_w, i32_w]
     rfl
    refine pure_ (i := 8) (N := some 43) (v := undef) (a' := ?_) (onA 21 9) rfl rfl (any_of HT_.out (by kernel_rfl)) (fun _ _ _ h => h) (Or.inr ⟨by rfl, rfl⟩) ?_ ?_
    rotate_left
    ·
     simp only [Act.put, List.setIfInBounds_toArray, List.set_cons_zero, List.set_cons_succ, i64_w, i32_w]
     rfl
    refine pure_ (i := 9) (N := some 44) (v := undef) (a' := ?_) (onA 21 10) rfl rfl (any_of HT_.out (by kernel_rfl)) (fun _ _ _ h => h) (Or.inr ⟨by rfl, rfl⟩) ?_ ?_
    rotate_left
    ·
     simp only [Act.put, List.setIfInBounds_toArray, List.set_cons_zero, List.set_cons_succ, i64_w, i32_w]
     rfl
    refine pure_ (i := 10) (N := some 45) (v := undef) (a' := ?_) (onA 21 11) rfl rfl (any_of HT_.out (by kernel_rfl)) (fun _ _ _ h => h) (Or.inr ⟨by rfl, rfl⟩) ?_ ?_
    rotate_left
    ·
     simp only [Act.put, List.setIfInBounds_toArray, List.set_cons_zero, List.set_cons_succ, i64_w, i32_w]
     rfl
    refine pure_ (i := 11) (N := some 46) (v := undef) (a' := ?_) (onA 21 12) rfl rfl (any_of HT_.out (by kernel_rfl)) (fun _ _ _ h => h) (Or.inr ⟨by rfl, rfl⟩) ?_ ?_
    rotate_left
    ·
     simp only [Act.put, List.setIfInBounds_toArray, List.set_cons_zero, List.set_cons_succ, i64_w, i32_w]
     rfl
    refine pure_ (i := 12) (N := some 47) (v := undef) (a' := ?_) (onA 21 13) rfl rfl (any_of HT_.out (by kernel_rfl)) (fun _ _ _ h => h) (Or.inr ⟨by rfl, rfl⟩) ?_ ?_
    rotate_left
    ·
     simp only [Act.put, List.setIfInBounds_toArray, List.set_cons_zero, List.set_cons_succ, i64_w, i32_w]
     rfl
    refine pure_ (i := 13) (N := some 48) (v := undef) (a' := ?_) (onA 21 14) rfl rfl (any_of HT_.out (by kernel_rfl)) (fun _ _ _ h => h) (Or.inr ⟨by rfl, rfl⟩) ?_ ?_
    rotate_left
    ·
     simp only [Act.put, List.setIfInBounds_toArray, List.set_cons_zero, List.set_cons_succ, i64_w, i32_w]
     rfl
    refine pure_ (i := 14) (N := some 49) (v := undef) (a' := ?_) (onA 21 15) rfl rfl (any_of HT_.out (by kernel_rfl)) (fun _ _ _ h => h) (Or.inr ⟨by rfl, rfl⟩) ?_ ?_
    rotate_left
    ·
     simp only [Act.put, List.setIfInBounds_toArray, List.set_cons_zero, List.set_cons_succ, i64_w, i32_w]
     rfl
    refine pure_ (i := 15) (N := some 50) (v := undef) (a' := ?_) (onA 21 16) rfl rfl (any_of HT_.out (by kernel_rfl)) (fun _ _ _ h => h) (Or.inr ⟨by rfl, rfl⟩) ?_ ?_
    rotate_left
    ·
     simp only [Act.put, List.setIfInBounds_toArray, List.set_cons_zero, List.set_cons_succ, i64_w, i32_w]
     rfl
    refine pure_ (i := 16) (N := some 51) (v := undef) (a' := ?_) (onA 21 17) rfl rfl (any_of HT_.out (by kernel_rfl)) (fun _ _ _ h => h) (Or.inr ⟨by rfl, rfl⟩) ?_ ?_
    rotate_left
    ·
     simp only [Act.put, List.setIfInBounds_toArray, List.set_cons_zero, List.set_cons_succ, i64_w, i32_w]
     rfl
    refine pure_ (i := 17) (N := some 52) (v := undef) (a' := ?_) (onA 21 18) rfl rfl (any_of HT_.out (by kernel_rfl)) (fun _ _ _ h => h) (Or.inr ⟨by rfl, rfl⟩) ?_ ?_
    rotate_left
    ·
     simp only [Act.put, List.setIfInBounds_toArray, List.set_cons_zero, List.set_cons_succ, i64_w, i32_w]
     rfl
    refine pure_ (i := 18) (N := some 53) (v := undef) (a' := ?_) (onA 21 19) rfl rfl (any_of HT_.out (by kernel_rfl)) (fun _ _ _ h => h) (Or.inr ⟨by rfl, rfl⟩) ?_ ?_
    rotate_left
    ·
     simp only [Act.put, List.setIfInBounds_toArray, List.set_cons_zero, List.set_cons_succ, i64_w, i32_w]
     rfl
    refine pure_ (i := 19) (N := some 54) (v := ?_) (a' := ?_) (onA 21 20) rfl rfl (any_of HT_.out (by kernel_rfl)) (fun _ _ _ h => h) (Or.inl ⟨by rfl, ?_⟩) ?_ ?_
    rotate_left
    ·
     intro w'
     go_simp
     with_reducible rfl
    rotate_left
    ·
     simp only [Act.put, List.setIfInBounds_toArray, List.set_cons_zero, List.set_cons_succ, i64_w, i32_w]
     rfl
    refine pure_ (i := 20) (N := some 55) (v := ?_) (a' := ?_) (onA 21 21) rfl rfl (any_of HT_.out (by kernel_rfl)) (fun _ _ _ h => h) (Or.inl ⟨by rfl, ?_⟩) ?_ ?_
    rotate_left
    ·
     intro w'
     go_simp
     with_reducible rfl
    rotate_left
    ·
     simp only [Act.put, List.setIfInBounds_toArray, List.set_cons_zero, List.set_cons_succ, i64_w, i32_w]
     rfl
    refine done_ (done_of HT_.out (by kernel_rfl)) ?_
    try go_wp2
    go_roundg k1
    case measure => have := HK1.out; omega
    case rel => exact ⟨(x7_1), (wrap64 (x16_1 + 1)), (by first | rfl | (simp; done) | (simp [*]; done)), (by first | rfl | (simp; done) | (simp [*]; done)), H', ⟨by have := HK1.out; omega⟩, ⟨by (with_reducible repeat (first | apply Kd.R_alloc | apply Kd.R_drewN | apply Kd.R_drew)); exact HO_14.out⟩, ⟨by repeat (first | (with_reducible first | exact HB.out | apply below_alloc | apply pw_below_drewN | apply below_drew1) | exact HB.out)⟩⟩
   rw [if_pos c22] at H
   have c22b0 : (t178 == t180) = true := beq_iff_eq.mpr c22
   have c22b1 : (t178 != t180) = false := bne_eq_false_iff_eq.mpr c22
   clear c22
   by_cases c23 : ((rd_T35 l0 (rd t173 x16_1)).f0) < ((rd_T35 l0 x7_1).f0)
   rotate_left
   ·
    rw [if_neg c23] at H
    have c23b0 : decide (((rd_T35 l0 (rd t173 x16_1)).f0) < ((rd_T35 l0 x7_1).f0)) = false := decide_eq_false c23
    clear c23
    have H' := Aside0.mk H
    clear H
    have p176 : 0 ≤ (x16_1 : Int) := of_decide_eq_true (by first | (with_reducible assumption) | assumption)
    have q176 : x16_1 < (t173.length : Int) := of_decide_eq_true (by first | (with_reducible assumption) | assumption)
    obtain ⟨ad176, e176, hx176_0⟩ := Kd.at_int (Kd.R_reads' HO_14.out).2.2 x16_1 p176 q176
    cases e176
    replace p176 := eq_true p176
    replace q176 := eq_true q176
    try go_wp2
    have n0_ := Aside0.mk (Kd.R_drew HO_14.out)
    have n1_ := Aside0.mk (below_drew1 HB.out)
    clear HO_14
    clear HB
    have HO_14 := n0_
    have HB := n1_
    clear n0_ n1_
    have p177 : 0 ≤ ((rd t173 x16_1) : Int) := of_decide_eq_true (by first | (with_reducible assumption) | assumption)
    have q177 : (rd t173 x16_1) < (l0.length : Int) := of_decide_eq_true (by first | (with_reducible assumption) | assumption)
    obtain ⟨ad177, e177, hx177_0, hx177_1, hx177_2⟩ := at_T35 HR0.out (rd t173 x16_1) p177 q177
    have hw177_2 := hx177_2
    have hw177_1 := hx177_1
    have hw177_0 := hx177_0
    cases e177
    replace hx177_0 := (HB.out.cell (World.block_lt_of_cell? w _ hx177_0)).trans hx177_0
    replace hx177_1 := (HB.out.cell (World.block_lt_of_cell? w _ hx177_1)).trans hx177_1
    replace hx177_2 := (HB.out.cell (World.block_lt_of_cell? w _ hx177_2)).trans hx177_2
    replace p177 := eq_true p177
    replace q177 := eq_true q177
    have p179 : 0 ≤ (x7_1 : Int) := of_decide_eq_true (by first | (with_reducible assumption) | assumption)
    have q179 : x7_1 < (l0.length : Int) := of_decide_eq_true (by first | (with_reducible assumption) | assumption)
    obtain ⟨ad179, e179, hx179_0, hx179_1, hx179_2⟩ := at_T35 HR0.out x7_1 p179 q179
    have hw179_2 := hx179_2
    have hw179_1 := hx179_1
    have hw179_0 := hx179_0
    obtain rfl : ad177 = ad179 := (by injection e179)
    replace hx179_0 := (HB.out.cell (World.block_lt_of_cell? w _ hx179_0)).trans hx179_0
    replace hx179_1 := (HB.out.cell (World.block_lt_of_cell? w _ hx179_1)).trans hx179_1
    replace hx179_2 := (HB.out.cell (World.block_lt_of_cell? w _ hx179_2)).trans hx179_2
    replace p179 := eq_true p179
    replace q179 := eq_true q179
    refine start_ (n := 14) (S := fun w' => w'.cell? (ad177.add (((rd t173 x16_1)).toNat * 3)) = some (.int .i64 ((rd_T35 l0 (rd t173 x16_1)).f0)) ∧ w'.cell? ⟨(ad177.add (((rd t173 x16_1)).toNat * 3)).block, (ad177.add (((rd t173 x16_1)).toNat * 3)).off + 1, none⟩ = some (.int .i64 ((rd_T35 l0 (rd t173 x16_1)).f1)) ∧ w'.cell? ⟨(ad177.add (((rd t173 x16_1)).toNat * 3)).block, (ad177.add (((rd t173 x16_1)).toNat * 3)).off + 2, none⟩ = some (.bool ((rd_T35 l0 (rd t173 x16_1)).f2)) ∧ w'.cell? (ad177.add ((x7_1).toNat * 3)) = some (.int .i64 ((rd_T35 l0 x7_1).f0)) ∧ w'.cell? ⟨(ad177.add ((x7_1).toNat * 3)).block, (ad177.add ((x7_1).toNat * 3)).off + 1, none⟩ = some (.int .i64 ((rd_T35 l0 x7_1).f1)) ∧ w'.cell? ⟨(ad177.add ((x7_1).toNat * 3)).block, (ad177.add ((x7_1).toNat * 3)).off + 2, none⟩ = some (.bool ((rd_T35 l0 x7_1).f2))) (ds := []) (onA 14 0) (by kernel_rfl) rfl rfl ⟨((HB.out.cell (World.block_lt_of_cell? w _ hw177_0)).trans hw177_0), ((HB.out.cell (World.block_lt_of_cell? w _ hw177_1)).trans hw177_1), ((HB.out.cell (World.block_lt_of_cell? w _ hw177_2)).trans hw177_2), ((HB.out.cell (World.block_lt_of_cell? w _ hw179_0)).trans hw179_0), ((HB.out.cell (World.block_lt_of_cell? w _ hw179_1)).trans hw179_1), ((HB.out.cell (World.block_lt_of_cell? w _ hw179_2)).trans hw179_2)⟩ (fun hHeld => ?_); refine with_tabW fit_Choose.tab7 fit_Choose.bits7 (fun HT_ HW_ => ?_)
    generalize wr.drew = w28 at HO_14 HB hx177_0 hx177_1 hx177_2 hx179_0 hx179_1 hx179_2 hHeld ⊢
    refine pure_ (i := 0) (N := some 23) (v := ?_) (a' := ?_) (onA 14 1) rfl rfl (any_of HT_.out (by kernel_rfl)) (fun _ _ _ h => h) (Or.inl ⟨by rfl, ?_⟩) ?_ ?_
    rotate_left
    ·
     intro w'
     go_simp
     with_reducible rfl
    rotate_left
    ·
     simp only [Act.put, List.setIfInBounds_toArray, List.set_cons_zero, List.set_cons_succ, i64_w, i32_w]
     rfl
    refine pure_ (i := 1) (N := some 24) (v := ?_) (a' := ?_) (onA 14 2) rfl rfl (any_of HT_.out (by kernel_rfl)) (fun _ _ _ h => h) (Or.inl ⟨by rfl, ?_⟩) ?_ ?_
    rotate_left
    ·
     intro w'
     go_simp
     with_reducible rfl
    rotate_left
    ·
     simp only [Act.put, List.setIfInBounds_toArray, List.set_cons_zero, List.set_cons_succ, i64_w, i32_w]
     rfl
    refine pure_ (i := 2) (N := some 25) (v := ?_) (a' := ?_) (onA 14 3) rfl rfl (any_of HT_.out (by kernel_rfl)) (fun _ _ _ h => h) (Or.inl ⟨by rfl, ?_⟩) ?_ ?_
    rotate_left
    ·
     intro w'
     go_simp
     with_reducible rfl
    rotate_left
    ·
     simp only [Act.put, List.setIfInBounds_toArray, List.set_cons_zero, List.set_cons_succ, i64_w, i32_w]
     rfl
    refine pure_ (i := 4) (N := some 27) (v := ?_) (a' := ?_) #[tt_, tt_, tt_, ff_, tt_, ff_, ff_, ff_, ff_, ff_, ff_, ff_, ff_, ff_] rfl rfl (any_of HT_.out (by kernel_rfl)) (fun _ _ _ h => h) (Or.inl ⟨by rfl, ?_⟩) ?_ ?_
    rotate_left
    ·
     intro w'
     go_simp
     with_reducible rfl
    rotate_left
    ·
     simp only [Act.put, List.setIfInBounds_toArray, List.set_cons_zero, List.set_cons_succ, i64_w, i32_w]
     rfl
    refine pure_ (i := 6) (N := some 29) (v := ?_) (a' := ?_) #[tt_, tt_, tt_, ff_, tt_, ff_, tt_, ff_, ff_, ff_, ff_, ff_, ff_, ff_] rfl rfl (any_of HT_.out (by kernel_rfl)) (fun _ _ _ h => h) (Or.inl ⟨by rfl, ?_⟩) ?_ ?_
    rotate_left
    ·
     intro w'
     go_simp
     with_reducible rfl
    rotate_left
    ·
     simp only [Act.put, List.setIfInBounds_toArray, List.set_cons_zero, List.set_cons_succ, i64_w, i32_w]
     rfl
    refine pure_ (i := 7) (N := some 30) (v := ?_) (a' := ?_) #[tt_, tt_, tt_, ff_, tt_, ff_, tt_, tt_, ff_, ff_, ff_, ff_, ff_, ff_] rfl rfl (any_of HT_.out (by kernel_rfl)) (fun _ _ _ h => h) (Or.inl ⟨by rfl, ?_⟩) ?_ ?_
    rotate_left
    ·
     intro w'
     go_simp
     with_reducible rfl
    rotate_left
    ·
     simp only [Act.put, List.setIfInBounds_toArray, List.set_cons_zero, List.set_cons_succ, i64_w, i32_w]
     rfl
    refine pure_ (i := 8) (N := some 31) (v := ?_) (a' := ?_) #[tt_, tt_, tt_, ff_, tt_, ff_, tt_, tt_, tt_, ff_, ff_, ff_, ff_, ff_] rfl rfl (any_of HT_.out (by kernel_rfl)) (fun _ _ _ h => h) (Or.inl ⟨by rfl, ?_⟩) ?_ ?_
    rotate_left
    ·
     intro w'
     go_simp
     with_reducible rfl
    rotate_left
    ·
     simp only [Act.put, List.setIfInBounds_toArray, List.set_cons_zero, List.set_cons_succ, i64_w, i32_w]
     rfl
    refine pure_ (i := 10) (N := some 33) (v := ?_) (a' := ?_) #[tt_, tt_, tt_, ff_, tt_, ff_, tt_, tt_, tt_, ff_, tt_, ff_, ff_, ff_] rfl rfl (any_of HT_.out (by kernel_rfl)) (fun _ _ _ h => h) (Or.inl ⟨by rfl, ?_⟩) ?_ ?_
    rotate_left
    ·
     intro w'
     go_simp
     with_reducible rfl
    rotate_left
    ·
     simp only [Act.put, List.setIfInBounds_toArray, List.set_cons_zero, List.set_cons_succ, i64_w, i32_w]
     rfl
    refine take_ (i := 3) (N := some 26) (v := ?_) (a' := ?_) #[tt_, tt_, tt_, tt_, tt_, ff_, tt_, tt_, tt_, ff_, tt_, ff_, ff_, ff_] rfl rfl (take_ofW HT_.out HW_.out (by kernel_rfl)) (fun _ _ _ h => h) (Or.inl ⟨by rfl, ?_⟩) hHeld ?_ ?_
    rotate_left
    ·
     rintro w' ⟨s0, s1, s2, s3, s4, s5⟩
     go_simp
     with_reducible rfl
    rotate_left
    ·
     simp only [Act.put, List.setIfInBounds_toArray, List.set_cons_zero, List.set_cons_succ, i64_w, i32_w]
     rfl
    refine take_ (i := 9) (N := some 32) (v := ?_) (a' := ?_) #[tt_, tt_, tt_, tt_, tt_, ff_, tt_, tt_, tt_, tt_, tt_, ff_, ff_, ff_] rfl rfl (take_ofW HT_.out HW_.out (by kernel_rfl)) (fun _ _ _ h => h) (Or.inl ⟨by rfl, ?_⟩) hHeld ?_ ?_
    rotate_left
    ·
     rintro w' ⟨s0, s1, s2, s3, s4, s5⟩
     go_simp
     with_reducible rfl
    rotate_left
    ·
     simp only [Act.put, List.setIfInBounds_toArray, List.set_cons_zero, List.set_cons_succ, i64_w, i32_w]
     rfl
    refine one_ (i := 5) (N := some 28) (onA 14 11) rfl rfl (one_of HT_.out (by kernel_rfl)) (by decide) (fun K hK => ?_)
    refine goes_ Try.func85 (by kernel_rfl) rfl #[.agg #[.int .i64 ((rd_T35 l0 (rd t173 x16_1)).f0), .int .i64 ((rd_T35 l0 (rd t173 x16_1)).f1), .bool ((rd_T35 l0 (rd t173 x16_1)).f2)], .slice A2 l2.length c2] (by rfl) rfl rfl (by (try simp only [List.map_toArray, List.map_cons, List.map_nil]); first | done | rfl | (simp only [List.length_drop, List.length_take]; rfl)) ?_
    with_reducible refine (fit_count.calls ((rd_T35 l0 (rd t173 x16_1)).f0) ((rd_T35 l0 (rd t173 x16_1)).f1) ((rd_T35 l0 (rd t173 x16_1)).f2) _ _ l2 t178 _ ?side1 ?side2 A13.out).mono ?_
    (case side1 => repeat (first | exact (Kd.C_below HR2.out HB.out) | (with_reducible refine Kd.C_alloc ?_ _) | (with_reducible refine Kd.C_drewN ?_ _) | (with_reducible refine Kd.C_drew ?_)))
    (case side2 => exact HC2.out)
    rintro e w29 ⟨rfl, hb⟩
    refine ⟨_, rfl, ?_⟩
    have n0_ := Aside0.mk (Kd.R_below (by (with_reducible repeat (first | apply Kd.R_alloc | apply Kd.R_drewN | apply Kd.R_drew)); exact HO_14.out) hb)
    have n1_ := Aside0.mk (below_step (by repeat (first | (with_reducible first | exact HB.out | apply below_alloc | apply pw_below_drewN | apply below_drew1) | exact HB.out)) hb)
    clear HO_14
    clear HB
    have HO_14 := n0_
    have HB := n1_
    clear n0_ n1_
    (try clear hb)
    (try clear hb2)
    (try clear hk)
    (try clear hi)
    refine hK.out _ _ ⟨((HB.out.cell (World.block_lt_of_cell? w _ hw177_0)).trans hw177_0), ((HB.out.cell (World.block_lt_of_cell? w _ hw177_1)).trans hw177_1), ((HB.out.cell (World.block_lt_of_cell? w _ hw177_2)).trans hw177_2), ((HB.out.cell (World.block_lt_of_cell? w _ hw179_0)).trans hw179_0), ((HB.out.cell (World.block_lt_of_cell? w _ hw179_1)).trans hw179_1), ((HB.out.cell (World.block_lt_of_cell? w _ hw179_2)).trans hw179_2)⟩ (fun hHeld => ?_)
    clear hK K
    refine norm_ (a' := ?_) ?_ ?_
    rotate_left
    ·
     show Act.put _ (some 28) _ = _
     simp only [Act.put, List.setIfInBounds_toArray, List.set_cons_zero, List.set_cons_succ, i64_w, i32_w]
     rfl
    refine one_ (i := 11) (N := some 34) (onA 14 12) rfl rfl (one_of HT_.out (by kernel_rfl)) (by decide) (fun K hK => ?_)
    refine goes_ Try.func85 (by kernel_rfl) rfl #[.agg #[.int .i64 ((rd_T35 l0 x7_1).f0), .int .i64 ((rd_T35 l0 x7_1).f1), .bool ((rd_T35 l0 x7_1).f2)], .slice A2 l2.length c2] (by rfl) rfl rfl (by (try simp only [List.map_toArray, List.map_cons, List.map_nil]); first | done | rfl | (simp only [List.length_drop, List.length_take]; rfl)) ?_
    with_reducible refine (fit_count.calls ((rd_T35 l0 x7_1).f0) ((rd_T35 l0 x7_1).f1) ((rd_T35 l0 x7_1).f2) _ _ l2 t180 _ ?side1 ?side2 A16.out).mono ?_
    (case side1 => repeat (first | exact (Kd.C_below HR2.out HB.out) | (with_reducible refine Kd.C_alloc ?_ _) | (with_reducible refine Kd.C_drewN ?_ _) | (with_reducible refine Kd.C_drew ?_)))
    (case side2 => exact HC2.out)
    rintro e w30 ⟨rfl, hb⟩
    refine ⟨_, rfl, ?_⟩
    have n0_ := Aside0.mk (Kd.R_below (by (with_reducible repeat (first | apply Kd.R_alloc | apply Kd.R_drewN | apply Kd.R_drew)); exact HO_14.out) hb)
    have n1_ := Aside0.mk (below_step (by repeat (first | (with_reducible first | exact HB.out | apply below_alloc | apply pw_below_drewN | apply below_drew1) | exact HB.out)) hb)
    clear HO_14
    clear HB
    have HO_14 := n0_
    have HB := n1_
    clear n0_ n1_
    (try clear hb)
    (try clear hb2)
    (try clear hk)
    (try clear hi)
    refine hK.out _ _ ⟨((HB.out.cell (World.block_lt_of_cell? w _ hw177_0)).trans hw177_0), ((HB.out.cell (World.block_lt_of_cell? w _ hw177_1)).trans hw177_1), ((HB.out.cell (World.block_lt_of_cell? w _ hw177_2)).trans hw177_2), ((HB.out.cell (World.block_lt_of_cell? w _ hw179_0)).trans hw179_0), ((HB.out.cell (World.block_lt_of_cell? w _ hw179_1)).trans hw179_1), ((HB.out.cell (World.block_lt_of_cell? w _ hw179_2)).trans hw179_2)⟩ (fun hHeld => ?_)
    clear hK K
    refine norm_ (a' := ?_) ?_ ?_
    rotate_left
    ·
     show Act.put _ (some 34) _ = _
     simp only [Act.put, List.setIfInBounds_toArray, List.set_cons_zero, List.set_cons_succ, i64_w, i32_w]
     rfl
    refine pure_ (i := 12) (N := some 10) (v := ?_) (a' := ?_) (onA 14 13) rfl rfl (any_of HT_.out (by kernel_rfl)) (fun _ _ _ h => h) (Or.inl ⟨by rfl, ?_⟩) ?_ ?_
    rotate_left
    ·
     intro w'
     go_simp
     with_reducible rfl
    rotate_left
    ·
     simp only [Act.put, List.setIfInBounds_toArray, List.set_cons_zero, List.set_cons_succ, i64_w, i32_w]
     rfl
    refine pure_ (i := 13) (N := some 11) (v := ?_) (a' := ?_) (onA 14 14) rfl rfl (any_of HT_.out (by kernel_rfl)) (fun _ _ _ h => h) (Or.inl ⟨by rfl, ?_⟩) ?_ ?_
    rotate_left
    ·
     intro w'
     go_simp
     with_reducible rfl
    rotate_left
    ·
     simp only [Act.put, List.setIfInBounds_toArray, List.set_cons_zero, List.set_cons_succ, i64_w, i32_w]
     rfl
    refine done_ (done_of HT_.out (by kernel_rfl)) ?_
    try go_wp2
    have n0_ := Aside0.mk (Kd.R_drew HO_14.out)
    have n1_ := Aside0.mk (below_drew1 HB.out)
    clear HO_14
    clear HB
    have HO_14 := n0_
    have HB := n1_
    clear n0_ n1_
    have p181 : 0 ≤ ((rd t173 x16_1) : Int) := of_decide_eq_true (by first | (with_reducible assumption) | assumption)
    have q181 : (rd t173 x16_1) < (l0.length : Int) := of_decide_eq_true (by first | (with_reducible assumption) | assumption)
    obtain ⟨ad181, e181, hx181_0, hx181_1, hx181_2⟩ := at_T35 HR0.out (rd t173 x16_1) p181 q181
    have hw181_2 := hx181_2
    have hw181_1 := hx181_1
    have hw181_0 := hx181_0
    obtain rfl : ad177 = ad181 := (by injection e181)
    replace hx181_0 := (HB.out.cell (World.block_lt_of_cell? w _ hx181_0)).trans hx181_0
    replace hx181_1 := (HB.out.cell (World.block_lt_of_cell? w _ hx181_1)).trans hx181_1
    replace hx181_2 := (HB.out.cell (World.block_lt_of_cell? w _ hx181_2)).trans hx181_2
    replace p181 := eq_true p181
    replace q181 := eq_true q181
    have p182 : 0 ≤ (x7_1 : Int) := of_decide_eq_true (by first | (with_reducible assumption) | assumption)
    have q182 : x7_1 < (l0.length : Int) := of_decide_eq_true (by first | (with_reducible assumption) | assumption)
    obtain ⟨ad182, e182, hx182_0, hx182_1, hx182_2⟩ := at_T35 HR0.out x7_1 p182 q182
    have hw182_2 := hx182_2
    have hw182_1 := hx182_1
    have hw182_0 := hx182_0
    obtain rfl : ad177 = ad182 := (by injection e182)
    replace hx182_0 := (HB.out.cell (World.block_lt_of_cell? w _ hx182_0)).trans hx182_0
    replace hx182_1 := (HB.out.cell (World.block_lt_of_cell? w _ hx182_1)).trans hx182_1
    replace hx182_2 := (HB.out.cell (World.block_lt_of_cell? w _ hx182_2)).trans hx182_2
    replace p182 := eq_true p182
    replace q182 := eq_true q182
    refine start_ (n := 21) (S := fun w' => w'.cell? (ad177.add (((rd t173 x16_1)).toNat * 3)) = some (.int .i64 ((rd_T35 l0 (rd t173 x16_1)).f0)) ∧ w'.cell? ⟨(ad177.add (((rd t173 x16_1)).toNat * 3)).block, (ad177.add (((rd t173 x16_1)).toNat * 3)).off + 1, none⟩ = some (.int .i64 ((rd_T35 l0 (rd t173 x16_1)).f1)) ∧ w'.cell? ⟨(ad177.add (((rd t173 x16_1)).toNat * 3)).block, (ad177.add (((rd t173 x16_1)).toNat * 3)).off + 2, none⟩ = some (.bool ((rd_T35 l0 (rd t173 x16_1)).f2)) ∧ w'.cell? (ad177.add ((x7_1).toNat * 3)) = some (.int .i64 ((rd_T35 l0 x7_1).f0)) ∧ w'.cell? ⟨(ad177.add ((x7_1).toNat * 3)).block, (ad177.add ((x7_1).toNat * 3)).off + 1, none⟩ = some (.int .i64 ((rd_T35 l0 x7_1).f1)) ∧ w'.cell? ⟨(ad177.add ((x7_1).toNat * 3)).block, (ad177.add ((x7_1).toNat * 3)).off + 2, none⟩ = some (.bool ((rd_T35 l0 x7_1).f2))) (ds := []) (onA 21 0) (by kernel_rfl) rfl rfl ⟨((HB.out.cell (World.block_lt_of_cell? w _ hw181_0)).trans hw181_0), ((HB.out.cell (World.block_lt_of_cell? w _ hw181_1)).trans hw181_1), ((HB.out.cell (World.block_lt_of_cell? w _ hw181_2)).trans hw181_2), ((HB.out.cell (World.block_lt_of_cell? w _ hw182_0)).trans hw182_0), ((HB.out.cell (World.block_lt_of_cell? w _ hw182_1)).trans hw182_1), ((HB.out.cell (World.block_lt_of_cell? w _ hw182_2)).trans hw182_2)⟩ (fun hHeld => ?_); refine with_tabW fit_Choose.tab8 fit_Choose.bits8 (fun HT_ HW_ => ?_)
    generalize w30.drew = w31 at HO_14 HB hx181_0 hx181_1 hx181_2 hx182_0 hx182_1 hx182_2 hHeld ⊢
    refine pure_ (i := 0) (N := some 35) (v := ?_) (a' := ?_) (onA 21 1) rfl rfl (any_of HT_.out (by kernel_rfl)) (fun _ _ _ h => h) (Or.inl ⟨by rfl, ?_⟩) ?_ ?_
    rotate_left
    ·
     intro w'
     go_simp
     with_reducible rfl
    rotate_left
    ·
     simp only [Act.put, List.setIfInBounds_toArray, List.set_cons_zero, List.set_cons_succ, i64_w, i32_w]
     rfl
    refine pure_ (i := 1) (N := some 36) (v := ?_) (a' := ?_) (onA 21 2) rfl rfl (any_of HT_.out (by kernel_rfl)) (fun _ _ _ h => h) (Or.inl ⟨by rfl, ?_⟩) ?_ ?_
    rotate_left
    ·
     intro w'
     go_simp
     with_reducible rfl
    rotate_left
    ·
     simp only [Act.put, List.setIfInBounds_toArray, List.set_cons_zero, List.set_cons_succ, i64_w, i32_w]
     rfl
    refine pure_ (i := 2) (N := some 37) (v := ?_) (a' := ?_) (onA 21 3) rfl rfl (any_of HT_.out (by kernel_rfl)) (fun _ _ _ h => h) (Or.inl ⟨by rfl, ?_⟩) ?_ ?_
    rotate_left
    ·
     intro w'
     go_simp
     with_reducible rfl
    rotate_left
    ·
     simp only [Act.put, List.setIfInBounds_toArray, List.set_cons_zero, List.set_cons_succ, i64_w, i32_w]
     rfl
    refine pure_ (i := 3) (N := some 38) (v := ?_) (a' := ?_) (onA 21 4) rfl rfl (any_of HT_.out (by kernel_rfl)) (fun _ _ _ h => h) (Or.inl ⟨by rfl, ?_⟩) ?_ ?_
    rotate_left
    ·
     intro w'
     go_simp
     with_reducible rfl
    rotate_left
    ·
     simp only [Act.put, List.setIfInBounds_toArray, List.set_cons_zero, List.set_cons_succ, i64_w, i32_w]
     rfl
    refine pure_ (i := 4) (N := some 39) (v := ?_) (a' := ?_) (onA 21 5) rfl rfl (any_of HT_.out (by kernel_rfl)) (fun _ _ _ h => h) (Or.inl ⟨by rfl, ?_⟩) ?_ ?_
    rotate_left
    ·
     intro w'
     go_simp
     with_reducible rfl
    rotate_left
    ·
     simp only [Act.put, List.setIfInBounds_toArray, List.set_cons_zero, List.set_cons_succ, i64_w, i32_w]
     rfl
    refine pure_ (i := 5) (N := some 40) (v := ?_) (a' := ?_) (onA 21 6) rfl rfl (any_of HT_.out (by kernel_rfl)) (fun _ _ _ h => h) (Or.inl ⟨by rfl, ?_⟩) ?_ ?_
    rotate_left
    ·
     intro w'
     go_simp
     with_reducible rfl
    rotate_left
    ·
     simp only [Act.put, List.setIfInBounds_toArray, List.set_cons_zero, List.set_cons_succ, i64_w, i32_w]
     rfl
    refine pure_ (i := 6) (N := some 41) (v := ?_) (a' := ?_) (onA 21 7) rfl rfl (any_of HT_.out (by kernel_rfl)) (fun _ _ _ h => h) (Or.inl ⟨by rfl, ?_⟩) ?_ ?_
    rotate_left
    ·
     intro w'
     go_simp
     with_reducible rfl
    rotate_left
    ·
     simp only [Act.put, List.setIfInBounds_toArray, List.set_cons_zero, List.set_cons_succ, i64_w, i32_w]
     rfl
    refine pure_ (i := 7) (N := some 42) (v := ?_) (a' := ?_) (onA 21 8) rfl rfl (any_of HT_.out (by kernel_rfl)) (fun _ _ _ h => h) (Or.inl ⟨by rfl, ?_⟩) ?_ ?_
    rotate_left
    ·
     intro w'
     go_simp
     with_reducible rfl
    rotate_left
    ·
     simp only [Act.put, List.setIfInBounds_toArray, List.set_cons_zero, List.set_cons_succ, i64_w, i32_w]
     rfl
    refine pure_ (i := 8) (N := some 43) (v := ?_) (a' := ?_) (onA 21 9) rfl rfl (any_of HT_.out (by kernel_rfl)) (fun _ _ _ h => h) (Or.inl ⟨by rfl, ?_⟩) ?_ ?_
    rotate_left
    ·
     intro w'
     go_simp
     with_reducible rfl
    rotate_left
    ·
     simp only [Act.put, List.setIfInBounds_toArray, List.set_cons_zero, List.set_cons_succ, i64_w, i32_w]
     rfl
    refine pure_ (i := 9) (N := some 44) (v := ?_) (a' := ?_) (onA 21 10) rfl rfl (any_of HT_.out (by kernel_rfl)) (fun _ _ _ h => h) (Or.inl ⟨by rfl, ?_⟩) ?_ ?_
    rotate_left
    ·
     intro w'
     go_simp
     with_reducible rfl
    rotate_left
    ·
     simp only [Act.put, List.setIfInBounds_toArray, List.set_cons_zero, List.set_cons_succ, i64_w, i32_w]
     rfl
    refine pure_ (i := 10) (N := some 45) (v := ?_) (a' := ?_) (onA 21 11) rfl rfl (any_of HT_.out (by kernel_rfl)) (fun _ _ _ h => h) (Or.inl ⟨by rfl, ?_⟩) ?_ ?_
    rotate_left
    ·
     intro w'
     go_simp
     with_reducible rfl
    rotate_left
    ·
     simp only [Act.put, List.setIfInBounds_toArray, List.set_cons_zero, List.set_cons_succ, i64_w, i32_w]
     rfl
    refine pure_ (i := 11) (N := some 46) (v := ?_) (a' := ?_) (onA 21 12) rfl rfl (any_of HT_.out (by kernel_rfl)) (fun _ _ _ h => h) (Or.inl ⟨by rfl, ?_⟩) ?_ ?_
    rotate_left
    ·
     intro w'
     go_simp
     with_reducible rfl
    rotate_left
    ·
     simp only [Act.put, List.setIfInBounds_toArray, List.set_cons_zero, List.set_cons_succ, i64_w, i32_w]
     rfl
    refine pure_ (i := 13) (N := some 48) (v := ?_) (a' := ?_) #[tt_, tt_, tt_, tt_, tt_, tt_, tt_, tt_, tt_, tt_, tt_, tt_, ff_, tt_, ff_, ff_, ff_, ff_, ff_, ff_, ff_] rfl rfl (any_of HT_.out (by kernel_rfl)) (fun _ _ _ h => h) (Or.inl ⟨by rfl, ?_⟩) ?_ ?_
    rotate_left
    ·
     intro w'
     go_simp
     with_reducible rfl
    rotate_left
    ·
     simp only [Act.put, List.setIfInBounds_toArray, List.set_cons_zero, List.set_cons_succ, i64_w, i32_w]
     rfl
    refine pure_ (i := 14) (N := some 49) (v := ?_) (a' := ?_) #[tt_, tt_, tt_, tt_, tt_, tt_, tt_, tt_, tt_, tt_, tt_, tt_, ff_, tt_, tt_, ff_, ff_, ff_, ff_, ff_, ff_] rfl rfl (any_of HT_.out (by kernel_rfl)) (fun _ _ _ h => h) (Or.inl ⟨by rfl, ?_⟩) ?_ ?_
    rotate_left
    ·
     intro w'
     go_simp
     with_reducible rfl
    rotate_left
    ·
     simp only [Act.put, List.setIfInBounds_toArray, List.set_cons_zero, List.set_cons_succ, i64_w, i32_w]
     rfl
    refine pure_ (i := 15) (N := some 50) (v := ?_) (a' := ?_) #[tt_, tt_, tt_, tt_, tt_, tt_, tt_, tt_, tt_, tt_, tt_, tt_, ff_, tt_, tt_, tt_, ff_, ff_, ff_, ff_, ff_] rfl rfl (any_of HT_.out (by kernel_rfl)) (fun _ _ _ h => h) (Or.inl ⟨by rfl, ?_⟩) ?_ ?_
    rotate_left
    ·
     intro w'
     go_simp
     with_reducible rfl
    rotate_left
    ·
     simp only [Act.put, List.setIfInBounds_toArray, List.set_cons_zero, List.set_cons_succ, i64_w, i32_w]
     rfl
    refine pure_ (i := 16) (N := some 51) (v := ?_) (a' := ?_) #[tt_, tt_, tt_, tt_, tt_, tt_, tt_, tt_, tt_, tt_, tt_, tt_, ff_, tt_, tt_, tt_, tt_, ff_, ff_, ff_, ff_] rfl rfl (any_of HT_.out (by kernel_rfl)) (fun _ _ _ h => h) (Or.inl ⟨by rfl, ?_⟩) ?_ ?_
    rotate_left
    ·
     intro w'
     go_simp
     with_reducible rfl
    rotate_left
    ·
     simp only [Act.put, List.setIfInBounds_toArray, List.set_cons_zero, List.set_cons_succ, i64_w, i32_w]
     rfl
    refine take_ (i := 12) (N := some 47) (v := ?_) (a' := ?_) (onA 21 17) rfl rfl (take_ofW HT_.out HW_.out (by kernel_rfl)) (fun _ _ _ h => h) (Or.inl ⟨by rfl, ?_⟩) hHeld ?_ ?_
    rotate_left
    ·
     rintro w' ⟨s0, s1, s2, s3, s4, s5⟩
     go_simp
     with_reducible rfl
    rotate_left
    ·
     simp only [Act.put, List.setIfInBounds_toArray, List.set_cons_zero, List.set_cons_succ, i64_w, i32_w]
     rfl
    refine take_ (i := 17) (N := some 52) (v := ?_) (a' := ?_) (onA 21 18) rfl rfl (take_ofW HT_.out HW_.out (by kernel_rfl)) (fun _ _ _ h => h) (Or.inl ⟨by rfl, ?_⟩) hHeld ?_ ?_
    rotate_left
    ·
     rintro w' ⟨s0, s1, s2, s3, s4, s5⟩
     go_simp
     with_reducible rfl
    rotate_left
    ·
     simp only [Act.put, List.setIfInBounds_toArray, List.set_cons_zero, List.set_cons_succ, i64_w, i32_w]
     rfl
    refine pure_ (i := 18) (N := some 53) (v := ?_) (a' := ?_) (onA 21 19) rfl rfl (any_of HT_.out (by kernel_rfl)) (fun _ _ _ h => h) (Or.inl ⟨by rfl, ?_⟩) ?_ ?_
    rotate_left
    ·
     intro w'
     go_simp
     with_reducible rfl
    rotate_left
    ·
     simp only [Act.put, List.setIfInBounds_toArray, List.set_cons_zero, List.set_cons_succ, i64_w, i32_w]
     rfl
    refine pure_ (i := 19) (N := some 54) (v := ?_) (a' := ?_) (onA 21 20) rfl rfl (any_of HT_.out (by kernel_rfl)) (fun _ _ _ h => h) (Or.inl ⟨by rfl, ?_⟩) ?_ ?_
    rotate_left
    ·
     intro w'
     go_simp
     with_reducible rfl
    rotate_left
    ·
     simp only [Act.put, List.setIfInBounds_toArray, List.set_cons_zero, List.set_cons_succ, i64_w, i32_w]
     rfl
    refine pure_ (i := 20) (N := some 55) (v := ?_) (a' := ?_) (onA 21 21) rfl rfl (any_of HT_.out (by kernel_rfl)) (fun _ _ _ h => h) (Or.inl ⟨by rfl, ?_⟩) ?_ ?_
    rotate_left
    ·
     intro w'
     go_simp
     with_reducible rfl
    rotate_left
    ·
     simp only [Act.put, List.setIfInBounds_toArray, List.set_cons_zero, List.set_cons_succ, i64_w, i32_w]
     rfl
    refine done_ (done_of HT_.out (by kernel_rfl)) ?_
    try go_wp2
    go_roundg k1
    case measure => have := HK1.out; omega
    case rel => exact ⟨(x7_1), (wrap64 (x16_1 + 1)), (by first | rfl | (simp; done) | (simp [*]; done)), (by first | rfl | (simp; done) | (simp [*]; done)), H', ⟨by have := HK1.out; omega⟩, ⟨by (with_reducible repeat (first | apply Kd.R_alloc | apply Kd.R_drewN | apply Kd.R_drew)); exact HO_14.out⟩, ⟨by repeat (first | (with_reducible first | exact HB.out | apply below_alloc | apply pw_below_drewN | apply below_drew1) | exact HB.out)⟩⟩
   rw [if_pos c23] at H
   have c23b0 : decide (((rd_T35 l0 (rd t173 x16_1)).f0) < ((rd_T35 l0 x7_1).f0)) = true := decide_eq_true c23
   clear c23
   have H' := Aside0.mk H
   clear H
   have p176 : 0 ≤ (x16_1 : Int) := of_decide_eq_true (by first | (with_reducible assumption) | assumption)
   have q176 : x16_1 < (t173.length : Int) := of_decide_eq_true (by first | (with_reducible assumption) | assumption)
   obtain ⟨ad176, e176, hx176_0⟩ := Kd.at_int (Kd.R_reads' HO_14.out).2.2 x16_1 p176 q176
   cases e176
   replace p176 := eq_true p176
   replace q176 := eq_true q176
   try go_wp2
   have n0_ := Aside0.mk (Kd.R_drew HO_14.out)
   have n1_ := Aside0.mk (below_drew1 HB.out)
   clear HO_14
   clear HB
   have HO_14 := n0_
   have HB := n1_
   clear n0_ n1_
   have p177 : 0 ≤ ((rd t173 x16_1) : Int) := of_decide_eq_true (by first | (with_reducible assumption) | assumption)
   have q177 : (rd t173 x16_1) < (l0.length : Int) := of_decide_eq_true (by first | (with_reducible assumption) | assumption)
   obtain ⟨ad177, e177, hx177_0, hx177_1, hx177_2⟩ := at_T35 HR0.out (rd t173 x16_1) p177 q177
   have hw177_2 := hx177_2
   have hw177_1 := hx177_1
   have hw177_0 := hx177_0
   cases e177
   replace hx177_0 := (HB.out.cell (World.block_lt_of_cell? w _ hx177_0)).trans hx177_0
   replace hx177_1 := (HB.out.cell (World.block_lt_of_cell? w _ hx177_1)).trans hx177_1
   replace hx177_2 := (HB.out.cell (World.block_lt_of_cell? w _ hx177_2)).trans hx177_2
   replace p177 := eq_true p177
   replace q177 := eq_true q177
   have p179 : 0 ≤ (x7_1 : Int) := of_decide_eq_true (by first | (with_reducible assumption) | assumption)
   have q179 : x7_1 < (l0.length : Int) := of_decide_eq_true (by first | (with_reducible assumption) | assumption)
   obtain ⟨ad179, e179, hx179_0, hx179_1, hx179_2⟩ := at_T35 HR0.out x7_1 p179 q179
   have hw179_2 := hx179_2
   have hw179_1 := hx179_1
   have hw179_0 := hx179_0
   obtain rfl : ad177 = ad179 := (by injection e179)
   replace hx179_0 := (HB.out.cell (World.block_lt_of_cell? w _ hx179_0)).trans hx179_0
   replace hx179_1 := (HB.out.cell (World.block_lt_of_cell? w _ hx179_1)).trans hx179_1
   replace hx179_2 := (HB.out.cell (World.block_lt_of_cell? w _ hx179_2)).trans hx179_2
   replace p179 := eq_true p179
   replace q179 := eq_true q179
   refine start_ (n := 14) (S := fun w' => w'.cell? (ad177.add (((rd t173 x16_1)).toNat * 3)) = some (.int .i64 ((rd_T35 l0 (rd t173 x16_1)).f0)) ∧ w'.cell? ⟨(ad177.add (((rd t173 x16_1)).toNat * 3)).block, (ad177.add (((rd t173 x16_1)).toNat * 3)).off + 1, none⟩ = some (.int .i64 ((rd_T35 l0 (rd t173 x16_1)).f1)) ∧ w'.cell? ⟨(ad177.add (((rd t173 x16_1)).toNat * 3)).block, (ad177.add (((rd t173 x16_1)).toNat * 3)).off + 2, none⟩ = some (.bool ((rd_T35 l0 (rd t173 x16_1)).f2)) ∧ w'.cell? (ad177.add ((x7_1).toNat * 3)) = some (.int .i64 ((rd_T35 l0 x7_1).f0)) ∧ w'.cell? ⟨(ad177.add ((x7_1).toNat * 3)).block, (ad177.add ((x7_1).toNat * 3)).off + 1, none⟩ = some (.int .i64 ((rd_T35 l0 x7_1).f1)) ∧ w'.cell? ⟨(ad177.add ((x7_1).toNat * 3)).block, (ad177.add ((x7_1).toNat * 3)).off + 2, none⟩ = some (.bool ((rd_T35 l0 x7_1).f2))) (ds := []) (onA 14 0) (by kernel_rfl) rfl rfl ⟨((HB.out.cell (World.block_lt_of_cell? w _ hw177_0)).trans hw177_0), ((HB.out.cell (World.block_lt_of_cell? w _ hw177_1)).trans hw177_1), ((HB.out.cell (World.block_lt_of_cell? w _ hw177_2)).trans hw177_2), ((HB.out.cell (World.block_lt_of_cell? w _ hw179_0)).trans hw179_0), ((HB.out.cell (World.block_lt_of_cell? w _ hw179_1)).trans hw179_1), ((HB.out.cell (World.block_lt_of_cell? w _ hw179_2)).trans hw179_2)⟩ (fun hHeld => ?_); refine with_tabW fit_Choose.tab7 fit_Choose.bits7 (fun HT_ HW_ => ?_)
   generalize wr.drew = w24 at HO_14 HB hx177_0 hx177_1 hx177_2 hx179_0 hx179_1 hx179_2 hHeld ⊢
   refine pure_ (i := 0) (N := some 23) (v := ?_) (a' := ?_) (onA 14 1) rfl rfl (any_of HT_.out (by kernel_rfl)) (fun _ _ _ h => h) (Or.inl ⟨by rfl, ?_⟩) ?_ ?_
   rotate_left
   ·
    intro w'
    go_simp
    with_reducible rfl
   rotate_left
   ·
    simp only [Act.put, List.setIfInBounds_toArray, List.set_cons_zero, List.set_cons_succ, i64_w, i32_w]
    rfl
   refine pure_ (i := 1) (N := some 24) (v := ?_) (a' := ?_) (onA 14 2) rfl rfl (any_of HT_.out (by kernel_rfl)) (fun _ _ _ h => h) (Or.inl ⟨by rfl, ?_⟩) ?_ ?_
   rotate_left
   ·
    intro w'
    go_simp
    with_reducible rfl
   rotate_left
   ·
    simp only [Act.put, List.setIfInBounds_toArray, List.set_cons_zero, List.set_cons_succ, i64_w, i32_w]
    rfl
   refine pure_ (i := 2) (N := some 25) (v := ?_) (a' := ?_) (onA 14 3) rfl rfl (any_of HT_.out (by kernel_rfl)) (fun _ _ _ h => h) (Or.inl ⟨by rfl, ?_⟩) ?_ ?_
   rotate_left
   ·
    intro w'
    go_simp
    with_reducible rfl
   rotate_left
   ·
    simp only [Act.put, List.setIfInBounds_toArray, List.set_cons_zero, List.set_cons_succ, i64_w, i32_w]
    rfl
   refine pure_ (i := 4) (N := some 27) (v := ?_) (a' := ?_) #[tt_, tt_, tt_, ff_, tt_, ff_, ff_, ff_, ff_, ff_, ff_, ff_, ff_, ff_] rfl rfl (any_of HT_.out (by kernel_rfl)) (fun _ _ _ h => h) (Or.inl ⟨by rfl, ?_⟩) ?_ ?_
   rotate_left
   ·
    intro w'
    go_simp
    with_reducible rfl
   rotate_left
   ·
    simp only [Act.put, List.setIfInBounds_toArray, List.set_cons_zero, List.set_cons_succ, i64_w, i32_w]
    rfl
   refine pure_ (i := 6) (N := some 29) (v := ?_) (a' := ?_) #[tt_, tt_, tt_, ff_, tt_, ff_, tt_, ff_, ff_, ff_, ff_, ff_, ff_, ff_] rfl rfl (any_of HT_.out (by kernel_rfl)) (fun _ _ _ h => h) (Or.inl ⟨by rfl, ?_⟩) ?_ ?_
   rotate_left
   ·
    intro w'
    go_simp
    with_reducible rfl
   rotate_left
   ·
    simp only [Act.put, List.setIfInBounds_toArray, List.set_cons_zero, List.set_cons_succ, i64_w, i32_w]
    rfl
   refine pure_ (i := 7) (N := some 30) (v := ?_) (a' := ?_) #[tt_, tt_, tt_, ff_, tt_, ff_, tt_, tt_, ff_, ff_, ff_, ff_, ff_, ff_] rfl rfl (any_of HT_.out (by kernel_rfl)) (fun _ _ _ h => h) (Or.inl ⟨by rfl, ?_⟩) ?_ ?_
   rotate_left
   ·
    intro w'
    go_simp
    with_reducible rfl
   rotate_left
   ·
    simp only [Act.put, List.setIfInBounds_toArray, List.set_cons_zero, List.set_cons_succ, i64_w, i32_w]
    rfl
   refine pure_ (i := 8) (N := some 31) (v := ?_) (a' := ?_) #[tt_, tt_, tt_, ff_, tt_, ff_, tt_, tt_, tt_, ff_, ff_, ff_, ff_, ff_] rfl rfl (any_of HT_.out (by kernel_rfl)) (fun _ _ _ h => h) (Or.inl ⟨by rfl, ?_⟩) ?_ ?_
   rotate_left
   ·
    intro w'
    go_simp
    with_reducible rfl
   rotate_left
   ·
    simp only [Act.put, List.setIfInBounds_toArray, List.set_cons_zero, List.set_cons_succ, i64_w, i32_w]
    rfl
   refine pure_ (i := 10) (N := some 33) (v := ?_) (a' := ?_) #[tt_, tt_, tt_, ff_, tt_, ff_, tt_, tt_, tt_, ff_, tt_, ff_, ff_, ff_] rfl rfl (any_of HT_.out (by kernel_rfl)) (fun _ _ _ h => h) (Or.inl ⟨by rfl, ?_⟩) ?_ ?_
   rotate_left
   ·
    intro w'
    go_simp
    with_reducible rfl
   rotate_left
   ·
    simp only [Act.put, List.setIfInBounds_toArray, List.set_cons_zero, List.set_cons_succ, i64_w, i32_w]
    rfl
   refine take_ (i := 3) (N := some 26) (v := ?_) (a' := ?_) #[tt_, tt_, tt_, tt_, tt_, ff_, tt_, tt_, tt_, ff_, tt_, ff_, ff_, ff_] rfl rfl (take_ofW HT_.out HW_.out (by kernel_rfl)) (fun _ _ _ h => h) (Or.inl ⟨by rfl, ?_⟩) hHeld ?_ ?_
   rotate_left
   ·
    rintro w' ⟨s0, s1, s2, s3, s4, s5⟩
    go_simp
    with_reducible rfl
   rotate_left
   ·
    simp only [Act.put, List.setIfInBounds_toArray, List.set_cons_zero, List.set_cons_succ, i64_w, i32_w]
    rfl
   refine take_ (i := 9) (N := some 32) (v := ?_) (a' := ?_) #[tt_, tt_, tt_, tt_, tt_, ff_, tt_, tt_, tt_, tt_, tt_, ff_, ff_, ff_] rfl rfl (take_ofW HT_.out HW_.out (by kernel_rfl)) (fun _ _ _ h => h) (Or.inl ⟨by rfl, ?_⟩) hHeld ?_ ?_
   rotate_left
   ·
    rintro w' ⟨s0, s1, s2, s3, s4, s5⟩
    go_simp
    with_reducible rfl
   rotate_left
   ·
    simp only [Act.put, List.setIfInBounds_toArray, List.set_cons_zero, List.set_cons_succ, i64_w, i32_w]
    rfl
   refine one_ (i := 5) (N := some 28) (onA 14 11) rfl rfl (one_of HT_.out (by kernel_rfl)) (by decide) (fun K hK => ?_)
   refine goes_ Try.func85 (by kernel_rfl) rfl #[.agg #[.int .i64 ((rd_T35 l0 (rd t173 x16_1)).f0), .int .i64 ((rd_T35 l0 (rd t173 x16_1)).f1), .bool ((rd_T35 l0 (rd t173 x16_1)).f2)], .slice A2 l2.length c2] (by rfl) rfl rfl (by (try simp only [List.map_toArray, List.map_cons, List.map_nil]); first | done | rfl | (simp only [List.length_drop, List.length_take]; rfl)) ?_
   with_reducible refine (fit_count.calls ((rd_T35 l0 (rd t173 x16_1)).f0) ((rd_T35 l0 (rd t173 x16_1)).f1) ((rd_T35 l0 (rd t173 x16_1)).f2) _ _ l2 t178 _ ?side1 ?side2 A13.out).mono ?_
   (case side1 => repeat (first | exact (Kd.C_below HR2.out HB.out) | (with_reducible refine Kd.C_alloc ?_ _) | (with_reducible refine Kd.C_drewN ?_ _) | (with_reducible refine Kd.C_drew ?_)))
   (case side2 => exact HC2.out)
   rintro e w25 ⟨rfl, hb⟩
   refine ⟨_, rfl, ?_⟩
   have n0_ := Aside0.mk (Kd.R_below (by (with_reducible repeat (first | apply Kd.R_alloc | apply Kd.R_drewN | apply Kd.R_drew)); exact HO_14.out) hb)
   have n1_ := Aside0.mk (below_step (by repeat (first | (with_reducible first | exact HB.out | apply below_alloc | apply pw_below_drewN | apply below_drew1) | exact HB.out)) hb)
   clear HO_14
   clear HB
   have HO_14 := n0_
   have HB := n1_
   clear n0_ n1_
   (try clear hb)
   (try clear hb2)
   (try clear hk)
   (try clear hi)
   refine hK.out _ _ ⟨((HB.out.cell (World.block_lt_of_cell? w _ hw177_0)).trans hw177_0), ((HB.out.cell (World.block_lt_of_cell? w _ hw177_1)).trans hw177_1), ((HB.out.cell (World.block_lt_of_cell? w _ hw177_2)).trans hw177_2), ((HB.out.cell (World.block_lt_of_cell? w _ hw179_0)).trans hw179_0), ((HB.out.cell (World.block_lt_of_cell? w _ hw179_1)).trans hw179_1), ((HB.out.cell (World.block_lt_of_cell? w _ hw179_2)).trans hw179_2)⟩ (fun hHeld => ?_)
   clear hK K
   refine norm_ (a' := ?_) ?_ ?_
   rotate_left
   ·
    show Act.put _ (some 28) _ = _
    simp only [Act.put, List.setIfInBounds_toArray, List.set_cons_zero, List.set_cons_succ, i64_w, i32_w]
    rfl
   refine one_ (i := 11) (N := some 34) (onA 14 12) rfl rfl (one_of HT_.out (by kernel_rfl)) (by decide) (fun K hK => ?_)
   refine goes_ Try.func85 (by kernel_rfl) rfl #[.agg #[.int .i64 ((rd_T35 l0 x7_1).f0), .int .i64 ((rd_T35 l0 x7_1).f1), .bool ((rd_T35 l0 x7_1).f2)], .slice A2 l2.length c2] (by rfl) rfl rfl (by (try simp only [List.map_toArray, List.map_cons, List.map_nil]); first | done | rfl | (simp only [List.length_drop, List.length_take]; rfl)) ?_
   with_reducible refine (fit_count.calls ((rd_T35 l0 x7_1).f0) ((rd_T35 l0 x7_1).f1) ((rd_T35 l0 x7_1).f2) _ _ l2 t180 _ ?side1 ?side2 A16.out).mono ?_
   (case side1 => repeat (first | exact (Kd.C_below HR2.out HB.out) | (with_reducible refine Kd.C_alloc ?_ _) | (with_reducible refine Kd.C_drewN ?_ _) | (with_reducible refine Kd.C_drew ?_)))
   (case side2 => exact HC2.out)
   rintro e w26 ⟨rfl, hb⟩
   refine ⟨_, rfl, ?_⟩
   have n0_ := Aside0.mk (Kd.R_below (by (with_reducible repeat (first | apply Kd.R_alloc | apply Kd.R_drewN | apply Kd.R_drew)); exact HO_14.out) hb)
   have n1_ := Aside0.mk (below_step (by repeat (first | (with_reducible first | exact HB.out | apply below_alloc | apply pw_below_drewN | apply below_drew1) | exact HB.out)) hb)
   clear HO_14
   clear HB
   have HO_14 := n0_
   have HB := n1_
   clear n0_ n1_
   (try clear hb)
   (try clear hb2)
   (try clear hk)
   (try clear hi)
   refine hK.out _ _ ⟨((HB.out.cell (World.block_lt_of_cell? w _ hw177_0)).trans hw177_0), ((HB.out.cell (World.block_lt_of_cell? w _ hw177_1)).trans hw177_1), ((HB.out.cell (World.block_lt_of_cell? w _ hw177_2)).trans hw177_2), ((HB.out.cell (World.block_lt_of_cell? w _ hw179_0)).trans hw179_0), ((HB.out.cell (World.block_lt_of_cell? w _ hw179_1)).trans hw179_1), ((HB.out.cell (World.block_lt_of_cell? w _ hw179_2)).trans hw179_2)⟩ (fun hHeld => ?_)
   clear hK K
   refine norm_ (a' := ?_) ?_ ?_
   rotate_left
   ·
    show Act.put _ (some 34) _ = _
    simp only [Act.put, List.setIfInBounds_toArray, List.set_cons_zero, List.set_cons_succ, i64_w, i32_w]
    rfl
   refine pure_ (i := 12) (N := some 10) (v := ?_) (a' := ?_) (onA 14 13) rfl rfl (any_of HT_.out (by kernel_rfl)) (fun _ _ _ h => h) (Or.inl ⟨by rfl, ?_⟩) ?_ ?_
   rotate_left
   ·
    intro w'
    go_simp
    with_reducible rfl
   rotate_left
   ·
    simp only [Act.put, List.setIfInBounds_toArray, List.set_cons_zero, List.set_cons_succ, i64_w, i32_w]
    rfl
   refine pure_ (i := 13) (N := some 11) (v := ?_) (a' := ?_) (onA 14 14) rfl rfl (any_of HT_.out (by kernel_rfl)) (fun _ _ _ h => h) (Or.inl ⟨by rfl, ?_⟩) ?_ ?_
   rotate_left
   ·
    intro w'
    go_simp
    with_reducible rfl
   rotate_left
   ·
    simp only [Act.put, List.setIfInBounds_toArray, List.set_cons_zero, List.set_cons_succ, i64_w, i32_w]
    rfl
   refine done_ (done_of HT_.out (by kernel_rfl)) ?_
   try go_wp2
   have n0_ := Aside0.mk (Kd.R_drew HO_14.out)
   have n1_ := Aside0.mk (below_drew1 HB.out)
   clear HO_14
   clear HB
   have HO_14 := n0_
   have HB := n1_
   clear n0_ n1_
   have p181 : 0 ≤ ((rd t173 x16_1) : Int) := of_decide_eq_true (by first | (with_reducible assumption) | assumption)
   have q181 : (rd t173 x16_1) < (l0.length : Int) := of_decide_eq_true (by first | (with_reducible assumption) | assumption)
   obtain ⟨ad181, e181, hx181_0, hx181_1, hx181_2⟩ := at_T35 HR0.out (rd t173 x16_1) p181 q181
   have hw181_2 := hx181_2
   have hw181_1 := hx181_1
   have hw181_0 := hx181_0
   obtain rfl : ad177 = ad181 := (by injection e181)
   replace hx181_0 := (HB.out.cell (World.block_lt_of_cell? w _ hx181_0)).trans hx181_0
   replace hx181_1 := (HB.out.cell (World.block_lt_of_cell? w _ hx181_1)).trans hx181_1
   replace hx181_2 := (HB.out.cell (World.block_lt_of_cell? w _ hx181_2)).trans hx181_2
   replace p181 := eq_true p181
   replace q181 := eq_true q181
   have p182 : 0 ≤ (x7_1 : Int) := of_decide_eq_true (by first | (with_reducible assumption) | assumption)
   have q182 : x7_1 < (l0.length : Int) := of_decide_eq_true (by first | (with_reducible assumption) | assumption)
   obtain ⟨ad182, e182, hx182_0, hx182_1, hx182_2⟩ := at_T35 HR0.out x7_1 p182 q182
   have hw182_2 := hx182_2
   have hw182_1 := hx182_1
   have hw182_0 := hx182_0
   obtain rfl : ad177 = ad182 := (by injection e182)
   replace hx182_0 := (HB.out.cell (World.block_lt_of_cell? w _ hx182_0)).trans hx182_0
   replace hx182_1 := (HB.out.cell (World.block_lt_of_cell? w _ hx182_1)).trans hx182_1
   replace hx182_2 := (HB.out.cell (World.block_lt_of_cell? w _ hx182_2)).trans hx182_2
   replace p182 := eq_true p182
   replace q182 := eq_true q182
   refine start_ (n := 21) (S := fun w' => w'.cell? (ad177.add (((rd t173 x16_1)).toNat * 3)) = some (.int .i64 ((rd_T35 l0 (rd t173 x16_1)).f0)) ∧ w'.cell? ⟨(ad177.add (((rd t173 x16_1)).toNat * 3)).block, (ad177.add (((rd t173 x16_1)).toNat * 3)).off + 1, none⟩ = some (.int .i64 ((rd_T35 l0 (rd t173 x16_1)).f1)) ∧ w'.cell? ⟨(ad177.add (((rd t173 x16_1)).toNat * 3)).block, (ad177.add (((rd t173 x16_1)).toNat * 3)).off + 2, none⟩ = some (.bool ((rd_T35 l0 (rd t173 x16_1)).f2)) ∧ w'.cell? (ad177.add ((x7_1).toNat * 3)) = some (.int .i64 ((rd_T35 l0 x7_1).f0)) ∧ w'.cell? ⟨(ad177.add ((x7_1).toNat * 3)).block, (ad177.add ((x7_1).toNat * 3)).off + 1, none⟩ = some (.int .i64 ((rd_T35 l0 x7_1).f1)) ∧ w'.cell? ⟨(ad177.add ((x7_1).toNat * 3)).block, (ad177.add ((x7_1).toNat * 3)).off + 2, none⟩ = some (.bool ((rd_T35 l0 x7_1).f2))) (ds := []) (onA 21 0) (by kernel_rfl) rfl rfl ⟨((HB.out.cell (World.block_lt_of_cell? w _ hw181_0)).trans hw181_0), ((HB.out.cell (World.block_lt_of_cell? w _ hw181_1)).trans hw181_1), ((HB.out.cell (World.block_lt_of_cell? w _ hw181_2)).trans hw181_2), ((HB.out.cell (World.block_lt_of_cell? w _ hw182_0)).trans hw182_0), ((HB.out.cell (World.block_lt_of_cell? w _ hw182_1)).trans hw182_1), ((HB.out.cell (World.block_lt_of_cell? w _ hw182_2)).trans hw182_2)⟩ (fun hHeld => ?_); refine with_tabW fit_Choose.tab8 fit_Choose.bits8 (fun HT_ HW_ => ?_)
   generalize w26.drew = w27 at HO_14 HB hx181_0 hx181_1 hx181_2 hx182_0 hx182_1 hx182_2 hHeld ⊢
   refine pure_ (i := 0) (N := some 35) (v := ?_) (a' := ?_) (onA 21 1) rfl rfl (any_of HT_.out (by kernel_rfl)) (fun _ _ _ h => h) (Or.inl ⟨by rfl, ?_⟩) ?_ ?_
   rotate_left
   ·
    intro w'
    go_simp
    with_reducible rfl
   rotate_left
   ·
    simp only [Act.put, List.setIfInBounds_toArray, List.set_cons_zero, List.set_cons_succ, i64_w, i32_w]
    rfl
   refine pure_ (i := 1) (N := some 36) (v := ?_) (a' := ?_) (onA 21 2) rfl rfl (any_of HT_.out (by kernel_rfl)) (fun _ _ _ h => h) (Or.inl ⟨by rfl, ?_⟩) ?_ ?_
   rotate_left
   ·
    intro w'
    go_simp
    with_reducible rfl
   rotate_left
   ·
    simp only [Act.put, List.setIfInBounds_toArray, List.set_cons_zero, List.set_cons_succ, i64_w, i32_w]
    rfl
   refine pure_ (i := 2) (N := some 37) (v := ?_) (a' := ?_) (onA 21 3) rfl rfl (any_of HT_.out (by kernel_rfl)) (fun _ _ _ h => h) (Or.inl ⟨by rfl, ?_⟩) ?_ ?_
   rotate_left
   ·
    intro w'
    go_simp
    with_reducible rfl
   rotate_left
   ·
    simp only [Act.put, List.setIfInBounds_toArray, List.set_cons_zero, List.set_cons_succ, i64_w, i32_w]
    rfl
   refine pure_ (i := 3) (N := some 38) (v := ?_) (a' := ?_) (onA 21 4) rfl rfl (any_of HT_.out (by kernel_rfl)) (fun _ _ _ h => h) (Or.inl ⟨by rfl, ?_⟩) ?_ ?_
   rotate_left
   ·
    intro w'
    go_simp
    with_reducible rfl
   rotate_left
   ·
    simp only [Act.put, List.setIfInBounds_toArray, List.set_cons_zero, List.set_cons_succ, i64_w, i32_w]
    rfl
   refine pure_ (i := 4) (N := some 39) (v := ?_) (a' := ?_) (onA 21 5) rfl rfl (any_of HT_.out (by kernel_rfl)) (fun _ _ _ h => h) (Or.inl ⟨by rfl, ?_⟩) ?_ ?_
   rotate_left
   ·
    intro w'
    go_simp
    with_reducible rfl
   rotate_left
   ·
    simp only [Act.put, List.setIfInBounds_toArray, List.set_cons_zero, List.set_cons_succ, i64_w, i32_w]
    rfl
   refine pure_ (i := 5) (N := some 40) (v := ?_) (a' := ?_) (onA 21 6) rfl rfl (any_of HT_.out (by kernel_rfl)) (fun _ _ _ h => h) (Or.inl ⟨by rfl, ?_⟩) ?_ ?_
   rotate_left
   ·
    intro w'
    go_simp
    with_reducible rfl
   rotate_left
   ·
    simp only [Act.put, List.setIfInBounds_toArray, List.set_cons_zero, List.set_cons_succ, i64_w, i32_w]
    rfl
   refine pure_ (i := 6) (N := some 41) (v := ?_) (a' := ?_) (onA 21 7) rfl rfl (any_of HT_.out (by kernel_rfl)) (fun _ _ _ h => h) (Or.inl ⟨by rfl, ?_⟩) ?_ ?_
   rotate_left
   ·
    intro w'
    go_simp
    with_reducible rfl
   rotate_left
   ·
    simp only [Act.put, List.setIfInBounds_toArray, List.set_cons_zero, List.set_cons_succ, i64_w, i32_w]
    rfl
   refine pure_ (i := 7) (N := some 42) (v := ?_) (a' := ?_) (onA 21 8) rfl rfl (any_of HT_.out (by kernel_rfl)) (fun _ _ _ h => h) (Or.inl ⟨by rfl, ?_⟩) ?_ ?_
   rotate_left
   ·
    intro w'
    go_simp
    with_reducible rfl
   rotate_left
   ·
    simp only [Act.put, List.setIfInBounds_toArray, List.set_cons_zero, List.set_cons_succ, i64_w, i32_w]
    rfl
   refine pure_ (i := 8) (N := some 43) (v := ?_) (a' := ?_) (onA 21 9) rfl rfl (any_of HT_.out (by kernel_rfl)) (fun _ _ _ h => h) (Or.inl ⟨by rfl, ?_⟩) ?_ ?_
   rotate_left
   ·
    intro w'
    go_simp
    with_reducible rfl
   rotate_left
   ·
    simp only [Act.put, List.setIfInBounds_toArray, List.set_cons_zero, List.set_cons_succ, i64_w, i32_w]
    rfl
   refine pure_ (i := 9) (N := some 44) (v := ?_) (a' := ?_) (onA 21 10) rfl rfl (any_of HT_.out (by kernel_rfl)) (fun _ _ _ h => h) (Or.inl ⟨by rfl, ?_⟩) ?_ ?_
   rotate_left
   ·
    intro w'
    go_simp
    with_reducible rfl
   rotate_left
   ·
    simp only [Act.put, List.setIfInBounds_toArray, List.set_cons_zero, List.set_cons_succ, i64_w, i32_w]
    rfl
   refine pure_ (i := 10) (N := some 45) (v := ?_) (a' := ?_) (onA 21 11) rfl rfl (any_of HT_.out (by kernel_rfl)) (fun _ _ _ h => h) (Or.inl ⟨by rfl, ?_⟩) ?_ ?_
   rotate_left
   ·
    intro w'
    go_simp
    with_reducible rfl
   rotate_left
   ·
    simp only [Act.put, List.setIfInBounds_toArray, List.set_cons_zero, List.set_cons_succ, i64_w, i32_w]
    rfl
   refine pure_ (i := 11) (N := some 46) (v := ?_) (a' := ?_) (onA 21 12) rfl rfl (any_of HT_.out (by kernel_rfl)) (fun _ _ _ h => h) (Or.inl ⟨by rfl, ?_⟩) ?_ ?_
   rotate_left
   ·
    intro w'
    go_simp
    with_reducible rfl
   rotate_left
   ·
    simp only [Act.put, List.setIfInBounds_toArray, List.set_cons_zero, List.set_cons_succ, i64_w, i32_w]
    rfl
   refine pure_ (i := 13) (N := some 48) (v := ?_) (a' := ?_) #[tt_, tt_, tt_, tt_, tt_, tt_, tt_, tt_, tt_, tt_, tt_, tt_, ff_, tt_, ff_, ff_, ff_, ff_, ff_, ff_, ff_] rfl rfl (any_of HT_.out (by kernel_rfl)) (fun _ _ _ h => h) (Or.inl ⟨by rfl, ?_⟩) ?_ ?_
   rotate_left
   ·
    intro w'
    go_simp
    with_reducible rfl
   rotate_left
   ·
    simp only [Act.put, List.setIfInBounds_toArray, List.set_cons_zero, List.set_cons_succ, i64_w, i32_w]
    rfl
   refine pure_ (i := 14) (N := some 49) (v := ?_) (a' := ?_) #[tt_, tt_, tt_, tt_, tt_, tt_, tt_, tt_, tt_, tt_, tt_, tt_, ff_, tt_, tt_, ff_, ff_, ff_, ff_, ff_, ff_] rfl rfl (any_of HT_.out (by kernel_rfl)) (fun _ _ _ h => h) (Or.inl ⟨by rfl, ?_⟩) ?_ ?_
   rotate_left
   ·
    intro w'
    go_simp
    with_reducible rfl
   rotate_left
   ·
    simp only [Act.put, List.setIfInBounds_toArray, List.set_cons_zero, List.set_cons_succ, i64_w, i32_w]
    rfl
   refine pure_ (i := 15) (N := some 50) (v := ?_) (a' := ?_) #[tt_, tt_, tt_, tt_, tt_, tt_, tt_, tt_, tt_, tt_, tt_, tt_, ff_, tt_, tt_, tt_, ff_, ff_, ff_, ff_, ff_] rfl rfl (any_of HT_.out (by kernel_rfl)) (fun _ _ _ h => h) (Or.inl ⟨by rfl, ?_⟩) ?_ ?_
   rotate_left
   ·
    intro w'
    go_simp
    with_reducible rfl
   rotate_left
   ·
    simp only [Act.put, List.setIfInBounds_toArray, List.set_cons_zero, List.set_cons_succ, i64_w, i32_w]
    rfl
   refine pure_ (i := 16) (N := some 51) (v := ?_) (a' := ?_) #[tt_, tt_, tt_, tt_, tt_, tt_, tt_, tt_, tt_, tt_, tt_, tt_, ff_, tt_, tt_, tt_, tt_, ff_, ff_, ff_, ff_] rfl rfl (any_of HT_.out (by kernel_rfl)) (fun _ _ _ h => h) (Or.inl ⟨by rfl, ?_⟩) ?_ ?_
   rotate_left
   ·
    intro w'
    go_simp
    with_reducible rfl
   rotate_left
   ·
    simp only [Act.put, List.setIfInBounds_toArray, List.set_cons_zero, List.set_cons_succ, i64_w, i32_w]
    rfl
   refine take_ (i := 12) (N := some 47) (v := ?_) (a' := ?_) (onA 21 17) rfl rfl (take_ofW HT_.out HW_.out (by kernel_rfl)) (fun _ _ _ h => h) (Or.inl ⟨by rfl, ?_⟩) hHeld ?_ ?_
   rotate_left
   ·
    rintro w' ⟨s0, s1, s2, s3, s4, s5⟩
    go_simp
    with_reducible rfl
   rotate_left
   ·
    simp only [Act.put, List.setIfInBounds_toArray, List.set_cons_zero, List.set_cons_succ, i64_w, i32_w]
    rfl
   refine take_ (i := 17) (N := some 52) (v := ?_) (a' := ?_) (onA 21 18) rfl rfl (take_ofW HT_.out HW_.out (by kernel_rfl)) (fun _ _ _ h => h) (Or.inl ⟨by rfl, ?_⟩) hHeld ?_ ?_
   rotate_left
   ·
    rintro w' ⟨s0, s1, s2, s3, s4, s5⟩
    go_simp
    with_reducible rfl
   rotate_left
   ·
    simp only [Act.put, List.setIfInBounds_toArray, List.set_cons_zero, List.set_cons_succ, i64_w, i32_w]
    rfl
   refine pure_ (i := 18) (N := some 53) (v := ?_) (a' := ?_) (onA 21 19) rfl rfl (any_of HT_.out (by kernel_rfl)) (fun _ _ _ h => h) (Or.inl ⟨by rfl, ?_⟩) ?_ ?_
   rotate_left
   ·
    intro w'
    go_simp
    with_reducible rfl
   rotate_left
   ·
    simp only [Act.put, List.setIfInBounds_toArray, List.set_cons_zero, List.set_cons_succ, i64_w, i32_w]
    rfl
   refine pure_ (i := 19) (N := some 54) (v := ?_) (a' := ?_) (onA 21 20) rfl rfl (any_of HT_.out (by kernel_rfl)) (fun _ _ _ h => h) (Or.inl ⟨by rfl, ?_⟩) ?_ ?_
   rotate_left
   ·
    intro w'
    go_simp
    with_reducible rfl
   rotate_left
   ·
    simp only [Act.put, List.setIfInBounds_toArray, List.set_cons_zero, List.set_cons_succ, i64_w, i32_w]
    rfl
   refine pure_ (i := 20) (N := some 55) (v := ?_) (a' := ?_) (onA 21 21) rfl rfl (any_of HT_.out (by kernel_rfl)) (fun _ _ _ h => h) (Or.inl ⟨by rfl, ?_⟩) ?_ ?_
   rotate_left
   ·
    intro w'
    go_simp
    with_reducible rfl
   rotate_left
   ·
    simp only [Act.put, List.setIfInBounds_toArray, List.set_cons_zero, List.set_cons_succ, i64_w, i32_w]
    rfl
   refine done_ (done_of HT_.out (by kernel_rfl)) ?_
   try go_wp2
   go_roundg k1
   case measure => have := HK1.out; omega
   case rel => exact ⟨(rd t173 x16_1), (wrap64 (x16_1 + 1)), (by first | rfl | (simp; done) | (simp [*]; done)), (by first | rfl | (simp; done) | (simp [*]; done)), H', ⟨by have := HK1.out; omega⟩, ⟨by (with_reducible repeat (first | apply Kd.R_alloc | apply Kd.R_drewN | apply Kd.R_drew)); exact HO_14.out⟩, ⟨by repeat (first | (with_reducible first | exact HB.out | apply below_alloc | apply pw_below_drewN | apply below_drew1) | exact HB.out)⟩⟩

end Go.Proofs.Ytglekonhdjploaa.XImageKeeps
