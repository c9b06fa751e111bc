-- Laid by this session's own printer (wip/xprint.py): each Go function that the law reaches as a plain Lean function, and that the call comes to it.
import Derived.Test.YtglekonhdjploaaXImageKeepsx0
import Derived.Test.YtglekonhdjploaaXImageKeepsx1
import Derived.Test.YtglekonhdjploaaXImageKeepsx3
import Derived.Test.YtglekonhdjploaaXImageKeepsx5
namespace Go.Proofs.Ytglekonhdjploaa.XImageKeeps
open Go.RowKit Go.Proofs.YtglekonhdjploaaW.PrintWords Go.Proofs.YtglekonhdjploaaW.PrintLast Go.Proofs.YtglekonhdjploaaW.PrintMore
attribute [local go_sem] max2_int min2_int max_two min_two max_three min_three max_four min_four   -- for this text's walks alone
set_option linter.unusedVariables false
set_option linter.unusedSimpArgs false

/-! ### image_Alloc: function 39 -/
def image_Alloc.f (k : Nat) (l0 : List Int) (a1 : Int) (l2 : List Int) : Option ((List (S30)) × Int × Int) := (fit_Need.f a1).bind fun t183 => (if t183 = 0 then (some (([] : List (S30)), 0, 1)) else ((chain_Blocks.f k l0).bind fun bt184 => (if bt184.2 = true then ((fit_Choose.f k bt184.1 t183 l2).bind fun t188 => (if t188 < 0 then (some (([] : List (S30)), 0, 4)) else ((carve_Edits.f k bt184.1 t188 t183).bind fun t189 => (if 0 ≤ t188 then (if t188 < (bt184.1.length : Int) then ((carve_Off.f ((rd_T35 bt184.1 t188).f0) ((rd_T35 bt184.1 t188).f1) ((rd_T35 bt184.1 t188).f2)).bind fun t193 => (some (t189, t193, 0))) else (none)) else (none))))) else (some (([] : List (S30)), 0, 6)))))
theorem image_Alloc.mono : ∀ a0 a1 a2 k, LeO (image_Alloc.f k a0 a1 a2) (image_Alloc.f (k + 1) a0 a1 a2) := by
 intro a0 a1 a2 k
 unfold image_Alloc.f
 repeat' first
   | (with_reducible exact carve_Edits.mono _ _ _ _)
   | (with_reducible exact chain_Blocks.mono _ _)
   | (with_reducible exact fit_Choose.mono _ _ _ _)
   | (with_reducible exact LeO.refl _)
   | (with_reducible exact LeO.none _)
   | (with_reducible refine LeO.ite ?_ ?_)
   | (with_reducible refine LeO.bind ?_ (fun _ => ?_))
   | exact carve_Edits.mono _ _ _ _
   | exact chain_Blocks.mono _ _
   | exact fit_Choose.mono _ _ _ _
   | exact LeO.none _
   | refine LeO.ite ?_ ?_
   | refine LeO.bind ?_ (fun _ => ?_)
def image_Alloc.T10 : Bool × List (List Nat × List Nat) := (true, [([], []), ([], []), ([], []), ([0, 1, 2], [0, 1, 2]), ([], []), ([], []), ([4, 5], [4, 5]), ([6], [6]), ([7, 3], [7]), ([3, 8, 0, 1, 2, 3], [3]), ([8, 9, 0, 1, 2, 3, 4, 5, 6, 7, 8, 9], [8]), ([10, 0, 1, 2, 3, 4, 5, 6, 7, 8, 9, 10], [])])
def image_Alloc.B10 : List Nat := [0, 0, 0, 7, 0, 0, 48, 112, 255, 511, 1023, 2047]
theorem image_Alloc.tab10 : rtab .any (opsOf Try.f39 10) = image_Alloc.T10 := by kernel_rfl
theorem image_Alloc.bits10 : waitsOk image_Alloc.T10.2 image_Alloc.B10 = true := by kernel_rfl
set_option maxHeartbeats 8000000 in
set_option maxRecDepth 100000 in
theorem image_Alloc.calls (k : Nat) (A0 : Option Addr) (c0 : Nat) (l0 : List Int) (a1 : Int) (A2 : Option Addr) (c2 : Nat) (l2 : List Int) (r1 : List (S30)) (r2 : Int) (r3 : Int) (w : World) (hr0 : Kd.C (Kd.int .u64) w A0 l0.length l0) (hc0 : l0.length ≤ c0) (hr2 : Kd.C (Kd.int .i64) w A2 l2.length l2) (hc2 : l2.length ≤ c2) (h : image_Alloc.f k l0 a1 l2 = some (r1, r2, r3)) :
  Calls Try.prog 39 #[.slice A0 l0.length c0, .int .i64 a1, .slice A2 l2.length c2] w fun e w' => ∃ v0_ : Value, e = .returned (.tuple #[v0_, .int .i64 r2, .int .i64 r3]) ∧ Kd.R k30 30 w' w.heap.size (fun _ => True) v0_ r1 ∧ Below w.heap.size w w' := by
 have hu35 := Try.underlying35
 have HR0 := Aside0.mk hr0
 have HC0 := Aside0.mk hc0
 clear hr0 hc0
 have HR2 := Aside0.mk hr2
 have HC2 := Aside0.mk hc2
 clear hr2 hc2
 have HB := Aside0.mk (Below.refl w.heap.size w)
 have H : ((fit_Need.f a1).bind fun t183 => (if t183 = 0 then (some (([] : List (S30)), 0, 1)) else ((chain_Blocks.f k l0).bind fun bt184 => (if bt184.2 = true then ((fit_Choose.f k bt184.1 t183 l2).bind fun t188 => (if t188 < 0 then (some (([] : List (S30)), 0, 4)) else ((carve_Edits.f k bt184.1 t188 t183).bind fun t189 => (if 0 ≤ t188 then (if t188 < (bt184.1.length : Int) then ((carve_Off.f ((rd_T35 bt184.1 t188).f0) ((rd_T35 bt184.1 t188).f1) ((rd_T35 bt184.1 t188).f2)).bind fun t193 => (some (t189, t193, 0))) else (none)) else (none))))) else (some (([] : List (S30)), 0, 6)))))) = some (r1, r2, r3) := h
 clear h
 replace H := Option.bind_eq_some_iff.mp H
 obtain ⟨t183, A40, H⟩ := H
 replace H : (if t183 = 0 then (some (([] : List (S30)), 0, 1)) else ((chain_Blocks.f k l0).bind fun bt184 => (if bt184.2 = true then ((fit_Choose.f k bt184.1 t183 l2).bind fun t188 => (if t188 < 0 then (some (([] : List (S30)), 0, 4)) else ((carve_Edits.f k bt184.1 t188 t183).bind fun t189 => (if 0 ≤ t188 then (if t188 < (bt184.1.length : Int) then ((carve_Off.f ((rd_T35 bt184.1 t188).f0) ((rd_T35 bt184.1 t188).f1) ((rd_T35 bt184.1 t188).f2)).bind fun t193 => (some (t189, t193, 0))) else (none)) else (none))))) else (some (([] : List (S30)), 0, 6))))) = some (r1, r2, r3) := H
 have A4 := Aside0.mk A40
 clear A40
 by_cases c5 : t183 = 0
 ·
  rw [if_pos c5] at H
  have c5b0 : (t183 == 0) = true := beq_iff_eq.mpr c5
  have c5b1 : (t183 != 0) = false := bne_eq_false_iff_eq.mpr c5
  clear c5
  simp only [Option.some.injEq, Prod.mk.injEq] at H
  obtain ⟨rfl, rfl, rfl⟩ := H
  go_enter Try.func39, Try.ntmps39
  go_wp2_with (first | ((with_reducible refine gate_callee (f := 32) rfl ?_); refine goesL_ (some 14) rfl rfl Try.func32 (by kernel_rfl) rfl #[.int .i64 a1] rfl (by (try simp only [List.map_toArray, List.map_cons, List.map_nil]); first | done | rfl | (simp only [List.length_drop, List.length_take]; rfl)) ?_; (with_reducible refine (fit_Need.calls a1 t183 _ A4.out).mono ?_); rintro e w' ⟨rfl, ⟨nd, rfl⟩⟩; refine ⟨_, rfl, ?_⟩))
  go_ret3
  exact ⟨_, by first | rfl | (simp [errW_none, errW_some] <;> rfl) | (simp [*, errW_none, errW_some] <;> rfl), by first | exact Kd.R_nil _ _ _ _ _ | exact Kd.N_nil _ _ _ _ _ | exact Kd.V_nil _ _ _ _ _ | exact Kd.Q_nil _ _ _ _ _ | exact Kd.S_nil _ _ _ _ _, by repeat (first | (with_reducible first | exact HB.out | apply below_alloc | apply pw_below_drewN | apply below_drew1) | exact HB.out)⟩
 rw [if_neg c5] at H
 have c5b0 : (t183 == 0) = false := beq_eq_false_iff_ne.mpr c5
 have c5b1 : (t183 != 0) = true := bne_iff_ne.mpr c5
 replace H := Option.bind_eq_some_iff.mp H
 obtain ⟨⟨t184, t185⟩, A60, H⟩ := H
 replace H : (if t185 = true then ((fit_Choose.f k t184 t183 l2).bind fun t188 => (if t188 < 0 then (some (([] : List (S30)), 0, 4)) else ((carve_Edits.f k t184 t188 t183).bind fun t189 => (if 0 ≤ t188 then (if t188 < (t184.length : Int) then ((carve_Off.f ((rd_T35 t184 t188).f0) ((rd_T35 t184 t188).f1) ((rd_T35 t184 t188).f2)).bind fun t193 => (some (t189, t193, 0))) else (none)) else (none))))) else (some (([] : List (S30)), 0, 6))) = some (r1, r2, r3) := H
 have A6 := Aside0.mk A60
 clear A60
 by_cases c7 : t185 = true
 rotate_left
 ·
  replace c7 := Bool.eq_false_iff.mpr c7
  subst c7
  have H1 : (some (([] : List (S30)), 0, 6)) = some (r1, r2, r3) := by rw [if_neg (show ¬ (false = true) by decide)] at H; exact H
  clear H
  have H := H1
  clear H1
  simp only [Option.some.injEq, Prod.mk.injEq] at H
  obtain ⟨rfl, rfl, rfl⟩ := H
  go_enter Try.func39, Try.ntmps39
  go_wp2_with (first | ((with_reducible refine gate_callee (f := 32) rfl ?_); refine goesL_ (some 14) rfl rfl Try.func32 (by kernel_rfl) rfl #[.int .i64 a1] rfl (by (try simp only [List.map_toArray, List.map_cons, List.map_nil]); first | done | rfl | (simp only [List.length_drop, List.length_take]; rfl)) ?_; (with_reducible refine (fit_Need.calls a1 t183 _ A4.out).mono ?_); rintro e w' ⟨rfl, ⟨nd, rfl⟩⟩; refine ⟨_, rfl, ?_⟩) | ((with_reducible refine gate_callee (f := 35) rfl ?_); refine goesL_ (some 19) rfl rfl Try.func35 (by kernel_rfl) rfl #[.slice A0 l0.length c0] rfl (by (try simp only [List.map_toArray, List.map_cons, List.map_nil]); first | done | rfl | (simp only [List.length_drop, List.length_take]; rfl)) ?_; (with_reducible refine (chain_Blocks.calls k _ _ l0 t184 false _ ?side1 ?side2 A6.out).mono ?_); (case side1 => repeat (first | exact HR0.out | (with_reducible refine Kd.C_alloc ?_ _) | (with_reducible refine Kd.C_drewN ?_ _) | (with_reducible refine Kd.C_drew ?_))); (case side2 => exact HC0.out); rintro e w23 ⟨v186, rfl, ho0, hb⟩; refine ⟨_, rfl, ?_⟩; have n0_ := Aside0.mk (Kd.R_lower ho0 (below_size (by repeat (first | (with_reducible first | exact HB.out | apply below_alloc | apply pw_below_drewN | apply below_drew1) | exact HB.out)))); have n1_ := Aside0.mk (below_step (by repeat (first | (with_reducible first | exact HB.out | apply below_alloc | apply pw_below_drewN | apply below_drew1) | exact HB.out)) hb); clear HB; have HO187 := n0_; have HB := n1_; clear n0_ n1_; (try clear hb); (try clear hb2); (try clear hk); (try clear hi); (try clear ho0)))
  go_ret3
  exact ⟨_, by first | rfl | (simp [errW_none, errW_some] <;> rfl) | (simp [*, errW_none, errW_some] <;> rfl), by first | exact Kd.R_nil _ _ _ _ _ | exact Kd.N_nil _ _ _ _ _ | exact Kd.V_nil _ _ _ _ _ | exact Kd.Q_nil _ _ _ _ _ | exact Kd.S_nil _ _ _ _ _, by repeat (first | (with_reducible first | exact HB.out | apply below_alloc | apply pw_below_drewN | apply below_drew1) | exact HB.out)⟩
 subst c7
 have H1 : ((fit_Choose.f k t184 t183 l2).bind fun t188 => (if t188 < 0 then (some (([] : List (S30)), 0, 4)) else ((carve_Edits.f k t184 t188 t183).bind fun t189 => (if 0 ≤ t188 then (if t188 < (t184.length : Int) then ((carve_Off.f ((rd_T35 t184 t188).f0) ((rd_T35 t184 t188).f1) ((rd_T35 t184 t188).f2)).bind fun t193 => (some (t189, t193, 0))) else (none)) else (none))))) = some (r1, r2, r3) := by rw [if_pos rfl] at H; exact H
 clear H
 have H := H1
 clear H1
 replace H := Option.bind_eq_some_iff.mp H
 obtain ⟨t188, A80, H⟩ := H
 replace H : (if t188 < 0 then (some (([] : List (S30)), 0, 4)) else ((carve_Edits.f k t184 t188 t183).bind fun t189 => (if 0 ≤ t188 then (if t188 < (t184.length : Int) then ((carve_Off.f ((rd_T35 t184 t188).f0) ((rd_T35 t184 t188).f1) ((rd_T35 t184 t188).f2)).bind fun t193 => (some (t189, t193, 0))) else (none)) else (none)))) = some (r1, r2, r3) := H
 have A8 := Aside0.mk A80
 clear A80
 by_cases c9 : t188 < 0
 ·
  rw [if_pos c9] at H
  have c9b0 : decide (t188 < 0) = true := decide_eq_true c9
  clear c9
  simp only [Option.some.injEq, Prod.mk.injEq] at H
  obtain ⟨rfl, rfl, rfl⟩ := H
  go_enter Try.func39, Try.ntmps39
  go_wp2_with (first | ((with_reducible refine gate_callee (f := 32) rfl ?_); refine goesL_ (some 14) rfl rfl Try.func32 (by kernel_rfl) rfl #[.int .i64 a1] rfl (by (try simp only [List.map_toArray, List.map_cons, List.map_nil]); first | done | rfl | (simp only [List.length_drop, List.length_take]; rfl)) ?_; (with_reducible refine (fit_Need.calls a1 t183 _ A4.out).mono ?_); rintro e w' ⟨rfl, ⟨nd, rfl⟩⟩; refine ⟨_, rfl, ?_⟩) | ((with_reducible refine gate_callee (f := 35) rfl ?_); refine goesL_ (some 19) rfl rfl Try.func35 (by kernel_rfl) rfl #[.slice A0 l0.length c0] rfl (by (try simp only [List.map_toArray, List.map_cons, List.map_nil]); first | done | rfl | (simp only [List.length_drop, List.length_take]; rfl)) ?_; (with_reducible refine (chain_Blocks.calls k _ _ l0 t184 true _ ?side1 ?side2 A6.out).mono ?_); (case side1 => repeat (first | exact HR0.out | (with_reducible refine Kd.C_alloc ?_ _) | (with_reducible refine Kd.C_drewN ?_ _) | (with_reducible refine Kd.C_drew ?_))); (case side2 => exact HC0.out); rintro e w10 ⟨v186, rfl, ho0, hb⟩; refine ⟨_, rfl, ?_⟩; have n0_ := Aside0.mk (Kd.R_lower ho0 (below_size (by repeat (first | (with_reducible first | exact HB.out | apply below_alloc | apply pw_below_drewN | apply below_drew1) | exact HB.out)))); have n1_ := Aside0.mk (below_step (by repeat (first | (with_reducible first | exact HB.out | apply below_alloc | apply pw_below_drewN | apply below_drew1) | exact HB.out)) hb); clear HB; have HO187 := n0_; have HB := n1_; clear n0_ n1_; (try clear hb); (try clear hb2); (try clear hk); (try clear hi); (try clear ho0); obtain ⟨Ao11, co11, eo11⟩ := Kd.R_slice HO187.out; subst eo11) | ((with_reducible refine gate_callee (f := 70) rfl ?_); refine goesL_ (some 27) rfl rfl Try.func70 (by kernel_rfl) rfl #[.slice Ao11 t184.length co11, .int .i64 t183, .slice A2 l2.length c2] rfl (by (try simp only [List.map_toArray, List.map_cons, List.map_nil]); first | done | rfl | (simp only [List.length_drop, List.length_take]; rfl)) ?_; (with_reducible refine (fit_Choose.calls k _ _ t184 t183 _ _ l2 t188 _ ?side1 ?side2 ?side3 ?side4 A8.out).mono ?_); (case side1 => repeat (first | exact (Kd.R_reads' HO187.out).2.2 | (with_reducible refine Kd.C_alloc ?_ _) | (with_reducible refine Kd.C_drewN ?_ _) | (with_reducible refine Kd.C_drew ?_))); (case side2 => exact (Kd.R_reads' HO187.out).2.1); (case side3 => repeat (first | exact (Kd.C_below HR2.out HB.out) | (with_reducible refine Kd.C_alloc ?_ _) | (with_reducible refine Kd.C_drewN ?_ _) | (with_reducible refine Kd.C_drew ?_))); (case side4 => exact HC2.out); rintro e w12 ⟨rfl, hb⟩; refine ⟨_, rfl, ?_⟩; have n0_ := Aside0.mk (Kd.R_below (by (with_reducible repeat (first | apply Kd.R_alloc | apply Kd.R_drewN | apply Kd.R_drew)); exact HO187.out) hb); have n1_ := Aside0.mk (below_step (by repeat (first | (with_reducible first | exact HB.out | apply below_alloc | apply pw_below_drewN | apply below_drew1) | exact HB.out)) hb); clear HO187; clear HB; have HO187 := n0_; have HB := n1_; clear n0_ n1_; (try clear hb); (try clear hb2); (try clear hk); (try clear hi)))
  go_ret3
  exact ⟨_, by first | rfl | (simp [errW_none, errW_some] <;> rfl) | (simp [*, errW_none, errW_some] <;> rfl), by first | exact Kd.R_nil _ _ _ _ _ | exact Kd.N_nil _ _ _ _ _ | exact Kd.V_nil _ _ _ _ _ | exact Kd.Q_nil _ _ _ _ _ | exact Kd.S_nil _ _ _ _ _, by repeat (first | (with_reducible first | exact HB.out | apply below_alloc | apply pw_below_drewN | apply below_drew1) | exact HB.out)⟩
 rw [if_neg c9] at H
 have c9b0 : decide (t188 < 0) = false := decide_eq_false c9
 clear c9
 replace H := Option.bind_eq_some_iff.mp H
 obtain ⟨t189, A130, H⟩ := H
 replace H : (if 0 ≤ t188 then (if t188 < (t184.length : Int) then ((carve_Off.f ((rd_T35 t184 t188).f0) ((rd_T35 t184 t188).f1) ((rd_T35 t184 t188).f2)).bind fun t193 => (some (t189, t193, 0))) else (none)) else (none)) = some (r1, r2, r3) := H
 have A13 := Aside0.mk A130
 clear A130
 by_cases c14 : 0 ≤ t188
 rotate_left
 ·
  rw [if_neg c14] at H
  exact absurd H (by simp)
 rw [if_pos c14] at H
 have c14b0 : decide (0 ≤ t188) = true := decide_eq_true c14
 clear c14
 by_cases c15 : t188 < (t184.length : Int)
 rotate_left
 ·
  rw [if_neg c15] at H
  exact absurd H (by simp)
 rw [if_pos c15] at H
 have c15b0 : decide (t188 < (t184.length : Int)) = true := decide_eq_true c15
 clear c15
 replace H := Option.bind_eq_some_iff.mp H
 obtain ⟨t193, A160, H⟩ := H
 replace H : (some (t189, t193, 0)) = some (r1, r2, r3) := H
 have A16 := Aside0.mk A160
 clear A160
 simp only [Option.some.injEq, Prod.mk.injEq] at H
 obtain ⟨rfl, rfl, rfl⟩ := H
 go_enter Try.func39, Try.ntmps39
 try go_wp2_with (first | ((with_reducible refine gate_callee (f := 32) rfl ?_); refine goesL_ (some 14) rfl rfl Try.func32 (by kernel_rfl) rfl #[.int .i64 a1] rfl (by (try simp only [List.map_toArray, List.map_cons, List.map_nil]); first | done | rfl | (simp only [List.length_drop, List.length_take]; rfl)) ?_; (with_reducible refine (fit_Need.calls a1 t183 _ A4.out).mono ?_); rintro e w' ⟨rfl, ⟨nd, rfl⟩⟩; refine ⟨_, rfl, ?_⟩) | ((with_reducible refine gate_callee (f := 35) rfl ?_); refine goesL_ (some 19) rfl rfl Try.func35 (by kernel_rfl) rfl #[.slice A0 l0.length c0] rfl (by (try simp only [List.map_toArray, List.map_cons, List.map_nil]); first | done | rfl | (simp only [List.length_drop, List.length_take]; rfl)) ?_; (with_reducible refine (chain_Blocks.calls k _ _ l0 t184 true _ ?side1 ?side2 A6.out).mono ?_); (case side1 => repeat (first | exact HR0.out | (with_reducible refine Kd.C_alloc ?_ _) | (with_reducible refine Kd.C_drewN ?_ _) | (with_reducible refine Kd.C_drew ?_))); (case side2 => exact HC0.out); rintro e w17 ⟨v186, rfl, ho0, hb⟩; refine ⟨_, rfl, ?_⟩; have n0_ := Aside0.mk (Kd.R_lower ho0 (below_size (by repeat (first | (with_reducible first | exact HB.out | apply below_alloc | apply pw_below_drewN | apply below_drew1) | exact HB.out)))); have n1_ := Aside0.mk (below_step (by repeat (first | (with_reducible first | exact HB.out | apply below_alloc | apply pw_below_drewN | apply below_drew1) | exact HB.out)) hb); clear HB; have HO187 := n0_; have HB := n1_; clear n0_ n1_; (try clear hb); (try clear hb2); (try clear hk); (try clear hi); (try clear ho0); obtain ⟨Ao18, co18, eo18⟩ := Kd.R_slice HO187.out; subst eo18) | ((with_reducible refine gate_callee (f := 70) rfl ?_); refine goesL_ (some 27) rfl rfl Try.func70 (by kernel_rfl) rfl #[.slice Ao18 t184.length co18, .int .i64 t183, .slice A2 l2.length c2] rfl (by (try simp only [List.map_toArray, List.map_cons, List.map_nil]); first | done | rfl | (simp only [List.length_drop, List.length_take]; rfl)) ?_; (with_reducible refine (fit_Choose.calls k _ _ t184 t183 _ _ l2 t188 _ ?side1 ?side2 ?side3 ?side4 A8.out).mono ?_); (case side1 => repeat (first | exact (Kd.R_reads' HO187.out).2.2 | (with_reducible refine Kd.C_alloc ?_ _) | (with_reducible refine Kd.C_drewN ?_ _) | (with_reducible refine Kd.C_drew ?_))); (case side2 => exact (Kd.R_reads' HO187.out).2.1); (case side3 => repeat (first | exact (Kd.C_below HR2.out HB.out) | (with_reducible refine Kd.C_alloc ?_ _) | (with_reducible refine Kd.C_drewN ?_ _) | (with_reducible refine Kd.C_drew ?_))); (case side4 => exact HC2.out); rintro e w19 ⟨rfl, hb⟩; refine ⟨_, rfl, ?_⟩; have n0_ := Aside0.mk (Kd.R_below (by (with_reducible repeat (first | apply Kd.R_alloc | apply Kd.R_drewN | apply Kd.R_drew)); exact HO187.out) hb); have n1_ := Aside0.mk (below_step (by repeat (first | (with_reducible first | exact HB.out | apply below_alloc | apply pw_below_drewN | apply below_drew1) | exact HB.out)) hb); clear HO187; clear HB; have HO187 := n0_; have HB := n1_; clear n0_ n1_; (try clear hb); (try clear hb2); (try clear hk); (try clear hi)))
 have n0_ := Aside0.mk (Kd.R_drew HO187.out)
 have n1_ := Aside0.mk (below_drew1 HB.out)
 clear HO187
 clear HB
 have HO187 := n0_
 have HB := n1_
 clear n0_ n1_
 have p192 : 0 ≤ (t188 : Int) := of_decide_eq_true (by first | (with_reducible assumption) | assumption)
 have q192 : t188 < (t184.length : Int) := of_decide_eq_true (by first | (with_reducible assumption) | assumption)
 obtain ⟨ad192, e192, hx192_0, hx192_1, hx192_2⟩ := at_T35 (Kd.R_reads' HO187.out).2.2 t188 p192 q192
 cases e192
 replace p192 := eq_true p192
 replace q192 := eq_true q192
 refine start_ (n := 12) (S := fun w' => w'.cell? (ad192.add ((t188).toNat * 3)) = some (.int .i64 ((rd_T35 t184 t188).f0)) ∧ w'.cell? ⟨(ad192.add ((t188).toNat * 3)).block, (ad192.add ((t188).toNat * 3)).off + 1, none⟩ = some (.int .i64 ((rd_T35 t184 t188).f1)) ∧ w'.cell? ⟨(ad192.add ((t188).toNat * 3)).block, (ad192.add ((t188).toNat * 3)).off + 2, none⟩ = some (.bool ((rd_T35 t184 t188).f2))) (ds := []) (onA 12 0) (by kernel_rfl) rfl rfl ⟨hx192_0, hx192_1, hx192_2⟩ (fun hHeld => ?_); refine with_tabW image_Alloc.tab10 image_Alloc.bits10 (fun HT_ HW_ => ?_)
 generalize w19.drew = w20 at HO187 HB hx192_0 hx192_1 hx192_2 hHeld ⊢
 refine pure_ (i := 0) (N := some 30) (v := ?_) (a' := ?_) (onA 12 1) rfl rfl (any_of HT_.out (by kernel_rfl)) (fun _ _ _ h => h) (Or.inl ⟨by rfl, ?_⟩) ?_ ?_
 rotate_left
 ·
  intro w'
  go_simp
  with_reducible rfl
 rotate_left
 ·
  simp only [Act.put, List.setIfInBounds_toArray, List.set_cons_zero, List.set_cons_succ, i64_w, i32_w]
  rfl
 refine pure_ (i := 1) (N := some 31) (v := ?_) (a' := ?_) (onA 12 2) rfl rfl (any_of HT_.out (by kernel_rfl)) (fun _ _ _ h => h) (Or.inl ⟨by rfl, ?_⟩) ?_ ?_
 rotate_left
 ·
  intro w'
  go_simp
  with_reducible rfl
 rotate_left
 ·
  simp only [Act.put, List.setIfInBounds_toArray, List.set_cons_zero, List.set_cons_succ, i64_w, i32_w]
  rfl
 refine pure_ (i := 2) (N := some 32) (v := ?_) (a' := ?_) (onA 12 3) rfl rfl (any_of HT_.out (by kernel_rfl)) (fun _ _ _ h => h) (Or.inl ⟨by rfl, ?_⟩) ?_ ?_
 rotate_left
 ·
  intro w'
  go_simp
  with_reducible rfl
 rotate_left
 ·
  simp only [Act.put, List.setIfInBounds_toArray, List.set_cons_zero, List.set_cons_succ, i64_w, i32_w]
  rfl
 refine pure_ (i := 4) (N := some 34) (v := ?_) (a' := ?_) #[tt_, tt_, tt_, ff_, tt_, ff_, ff_, ff_, ff_, ff_, ff_, ff_] rfl rfl (any_of HT_.out (by kernel_rfl)) (fun _ _ _ h => h) (Or.inl ⟨by rfl, ?_⟩) ?_ ?_
 rotate_left
 ·
  intro w'
  go_simp
  with_reducible rfl
 rotate_left
 ·
  simp only [Act.put, List.setIfInBounds_toArray, List.set_cons_zero, List.set_cons_succ, i64_w, i32_w]
  rfl
 refine pure_ (i := 5) (N := some 35) (v := ?_) (a' := ?_) #[tt_, tt_, tt_, ff_, tt_, tt_, ff_, ff_, ff_, ff_, ff_, ff_] rfl rfl (any_of HT_.out (by kernel_rfl)) (fun _ _ _ h => h) (Or.inl ⟨by rfl, ?_⟩) ?_ ?_
 rotate_left
 ·
  intro w'
  go_simp
  with_reducible rfl
 rotate_left
 ·
  simp only [Act.put, List.setIfInBounds_toArray, List.set_cons_zero, List.set_cons_succ, i64_w, i32_w]
  rfl
 refine pure_ (i := 6) (N := some 36) (v := ?_) (a' := ?_) #[tt_, tt_, tt_, ff_, tt_, tt_, tt_, ff_, ff_, ff_, ff_, ff_] rfl rfl (any_of HT_.out (by kernel_rfl)) (fun _ _ _ h => h) (Or.inl ⟨by rfl, ?_⟩) ?_ ?_
 rotate_left
 ·
  intro w'
  go_simp
  with_reducible rfl
 rotate_left
 ·
  simp only [Act.put, List.setIfInBounds_toArray, List.set_cons_zero, List.set_cons_succ, i64_w, i32_w]
  rfl
 refine take_ (i := 7) (N := some 37) (v := ?_) (a' := ?_) #[tt_, tt_, tt_, ff_, tt_, tt_, tt_, tt_, ff_, ff_, ff_, ff_] rfl rfl (take_ofW HT_.out HW_.out (by kernel_rfl)) (fun _ _ _ h => h) (Or.inl ⟨by rfl, ?_⟩) hHeld ?_ ?_
 rotate_left
 ·
  rintro w' ⟨s0, s1, s2⟩
  go_simp
  with_reducible rfl
 rotate_left
 ·
  simp only [Act.put, List.setIfInBounds_toArray, List.set_cons_zero, List.set_cons_succ, i64_w, i32_w]
  rfl
 refine one_ (i := 3) (N := some 33) (onA 12 8) rfl rfl (one_of HT_.out (by kernel_rfl)) (by decide) (fun K hK => ?_)
 refine goes_ Try.func26 (by kernel_rfl) rfl #[.slice (some ad192) t184.length co18, .int .i64 t188, .int .i64 t183] (by rfl) rfl rfl (by (try simp only [List.map_toArray, List.map_cons, List.map_nil]); first | done | rfl | (simp only [List.length_drop, List.length_take]; rfl)) ?_
 with_reducible refine (carve_Edits.calls k _ _ t184 t188 t183 t189 _ ?side1 ?side2 A13.out).mono ?_
 (case side1 => repeat (first | exact (Kd.R_reads' HO187.out).2.2 | (with_reducible refine Kd.C_alloc ?_ _) | (with_reducible refine Kd.C_drewN ?_ _) | (with_reducible refine Kd.C_drew ?_)))
 (case side2 => exact (Kd.R_reads' HO187.out).2.1)
 rintro e w21 ⟨v190, rfl, ho0, hb⟩
 have HS0_ := (hb.cell (World.block_lt_of_cell? _ _ (hHeld.1))).trans (hHeld.1)
 have HS1_ := (hb.cell (World.block_lt_of_cell? _ _ (hHeld.2.1))).trans (hHeld.2.1)
 have HS2_ := (hb.cell (World.block_lt_of_cell? _ _ (hHeld.2.2))).trans (hHeld.2.2)
 refine ⟨_, rfl, ?_⟩
 have n0_ := Aside0.mk (Kd.R_below (by (with_reducible repeat (first | apply Kd.R_alloc | apply Kd.R_drewN | apply Kd.R_drew)); exact HO187.out) hb)
 have n1_ := Aside0.mk (Kd.R_lower ho0 (below_size (by repeat (first | (with_reducible first | exact HB.out | apply below_alloc | apply pw_below_drewN | apply below_drew1) | exact HB.out))))
 have n2_ := Aside0.mk (below_step (by repeat (first | (with_reducible first | exact HB.out | apply below_alloc | apply pw_below_drewN | apply below_drew1) | exact HB.out)) hb)
 clear HO187
 clear HB
 have HO187 := n0_
 have HO191 := n1_
 have HB := n2_
 clear n0_ n1_ n2_
 (try clear hb)
 (try clear hb2)
 (try clear hk)
 (try clear hi)
 (try clear ho0)
 refine hK.out _ _ ⟨HS0_, HS1_, HS2_⟩ (fun hHeld => ?_)
 clear hK K
 refine norm_ (a' := ?_) ?_ ?_
 rotate_left
 ·
  show Act.put _ (some 33) _ = _
  simp only [Act.put, List.setIfInBounds_toArray, List.set_cons_zero, List.set_cons_succ, i64_w, i32_w]
  rfl
 refine one_ (i := 8) (N := some 38) (onA 12 9) rfl rfl (one_of HT_.out (by kernel_rfl)) (by decide) (fun K hK => ?_)
 refine goes_ Try.func28 (by kernel_rfl) rfl #[.agg #[.int .i64 ((rd_T35 t184 t188).f0), .int .i64 ((rd_T35 t184 t188).f1), .bool ((rd_T35 t184 t188).f2)]] (by rfl) rfl rfl (by (try simp only [List.map_toArray, List.map_cons, List.map_nil]); first | done | rfl | (simp only [List.length_drop, List.length_take]; rfl)) ?_
 with_reducible refine (carve_Off.calls ((rd_T35 t184 t188).f0) ((rd_T35 t184 t188).f1) ((rd_T35 t184 t188).f2) t193 _ A16.out).mono ?_
 rintro e w22 ⟨rfl, hb⟩
 have HS0_ := (hb.cell (World.block_lt_of_cell? _ _ (hHeld.1))).trans (hHeld.1)
 have HS1_ := (hb.cell (World.block_lt_of_cell? _ _ (hHeld.2.1))).trans (hHeld.2.1)
 have HS2_ := (hb.cell (World.block_lt_of_cell? _ _ (hHeld.2.2))).trans (hHeld.2.2)
 refine ⟨_, rfl, ?_⟩
 have n0_ := Aside0.mk (Kd.R_below (by (with_reducible repeat (first | apply Kd.R_alloc | apply Kd.R_drewN | apply Kd.R_drew)); exact HO187.out) hb)
 have n1_ := Aside0.mk (Kd.R_below (by (with_reducible repeat (first | apply Kd.R_alloc | apply Kd.R_drewN | apply Kd.R_drew)); exact HO191.out) hb)
 have n2_ := Aside0.mk (below_step (by repeat (first | (with_reducible first | exact HB.out | apply below_alloc | apply pw_below_drewN | apply below_drew1) | exact HB.out)) hb)
 clear HO187
 clear HO191
 clear HB
 have HO187 := n0_
 have HO191 := n1_
 have HB := n2_
 clear n0_ n1_ n2_
 (try clear hb)
 (try clear hb2)
 (try clear hk)
 (try clear hi)
 refine hK.out _ _ ⟨HS0_, HS1_, HS2_⟩ (fun hHeld => ?_)
 clear hK K
 refine norm_ (a' := ?_) ?_ ?_
 rotate_left
 ·
  show Act.put _ (some 38) _ = _
  simp only [Act.put, List.setIfInBounds_toArray, List.set_cons_zero, List.set_cons_succ, i64_w, i32_w]
  rfl
 refine pure_ (i := 9) (N := some 6) (v := ?_) (a' := ?_) (onA 12 10) rfl rfl (any_of HT_.out (by kernel_rfl)) (fun _ _ _ h => h) (Or.inl ⟨by rfl, ?_⟩) ?_ ?_
 rotate_left
 ·
  intro w'
  go_simp
  with_reducible rfl
 rotate_left
 ·
  simp only [Act.put, List.setIfInBounds_toArray, List.set_cons_zero, List.set_cons_succ, i64_w, i32_w]
  rfl
 refine pure_ (i := 10) (N := some 7) (v := ?_) (a' := ?_) (onA 12 11) rfl rfl (any_of HT_.out (by kernel_rfl)) (fun _ _ _ h => h) (Or.inl ⟨by rfl, ?_⟩) ?_ ?_
 rotate_left
 ·
  intro w'
  go_simp
  with_reducible rfl
 rotate_left
 ·
  simp only [Act.put, List.setIfInBounds_toArray, List.set_cons_zero, List.set_cons_succ, i64_w, i32_w]
  rfl
 refine pure_ (i := 11) (N := some 8) (v := ?_) (a' := ?_) (onA 12 12) rfl rfl (any_of HT_.out (by kernel_rfl)) (fun _ _ _ h => h) (Or.inl ⟨by rfl, ?_⟩) ?_ ?_
 rotate_left
 ·
  intro w'
  go_simp
  with_reducible rfl
 rotate_left
 ·
  simp only [Act.put, List.setIfInBounds_toArray, List.set_cons_zero, List.set_cons_succ, i64_w, i32_w]
  rfl
 refine done_ (done_of HT_.out (by kernel_rfl)) ?_
 try go_wp2
 go_ret3
 exact ⟨_, by first | rfl | (simp [errW_none, errW_some] <;> rfl) | (simp [*, errW_none, errW_some] <;> rfl), by (with_reducible repeat (first | apply Kd.R_alloc | apply Kd.R_drewN | apply Kd.R_drew)); exact HO191.out, by repeat (first | (with_reducible first | exact HB.out | apply below_alloc | apply pw_below_drewN | apply below_drew1) | exact HB.out)⟩

-- NOT PRINTED: function 86 (api_Block_86)

-- NOT PRINTED: function 71 (api_Block_71)

/-! ### image_Holds: function 42, told by hand -/
section
open Go.Shelf Go.Lib Go.Proofs
def ren86 : Ren := { f := fun x => match x with | 8 => 71 | 6 => 86 | n => n, t := fun x => match x with | 22 => 22 | 23 => 35 | 25 => 90 | n => n, g := fun n => n }
theorem lay86 : SlLaysH0.n6 Try.prog ren86 :=
  { mixed := by kernel_rfl, f6 := ⟨"slices.IndexFunc[[]darning/api.Block,darning/api.Block]", of_decide_eq_true (by kernel_rfl), Try.func86.trans (congrArg some (by kernel_rfl))⟩,
    t0 := Try.underlying0, a0 := Try.isAgg0, z0 := Try.sizeOf0, v0 := Try.zeroValue0, t3 := Try.underlying3, a3 := Try.isAgg3, z3 := Try.sizeOf3, v3 := Try.zeroValue3, t4 := Try.underlying4, a4 := Try.isAgg4, z4 := Try.sizeOf4, v4 := Try.zeroValue4,
    t22 := Try.underlying22, a22 := Try.isAgg22, z22 := Try.sizeOf22, v22 := Try.zeroValue22, t25 := Try.underlying90, a25 := Try.isAgg90, z25 := Try.sizeOf90, v25 := Try.zeroValue90 }
theorem lay71 : SlLaysH0.n8 Try.prog ren86 :=
  { mixed := by kernel_rfl, f6 := lay86.f6, f8 := ⟨"slices.ContainsFunc[[]darning/api.Block,darning/api.Block]", of_decide_eq_true (by kernel_rfl), Try.func71.trans (congrArg some (by kernel_rfl))⟩,
    t0 := Try.underlying0, a0 := Try.isAgg0, z0 := Try.sizeOf0, v0 := Try.zeroValue0, t3 := Try.underlying3, a3 := Try.isAgg3, z3 := Try.sizeOf3, v3 := Try.zeroValue3, t4 := Try.underlying4, a4 := Try.isAgg4, z4 := Try.sizeOf4, v4 := Try.zeroValue4,
    t22 := Try.underlying22, a22 := Try.isAgg22, z22 := Try.sizeOf22, v22 := Try.zeroValue22, t25 := Try.underlying90, a25 := Try.isAgg90, z25 := Try.sizeOf90, v25 := Try.zeroValue90 }
def offV (a : Int) : Int := if a < 0 then 0 else if a > 512 then 0 else wrap64 ((wrap64 (a + 1)) * 8)
theorem off_v (a b : Int) (c : Bool) : carve_Off.f a b c = some (offV a) := by
  unfold carve_Off.f offV
  split
  · rfl
  · split <;> rfl
def enc35 (x : S35) : List Value := [.int .i64 x.f0, .int .i64 x.f1, .bool x.f2]
/-- What stands while a predicate looks. -/
def Hold (B C : Nat) (off n x0 x1 : Int) (w W w' : World) : Prop :=
  w'.cell? ⟨B, 0, none⟩ = some (.int .i64 off) ∧ w'.cell? ⟨C, 0, none⟩ = some (.int .i64 n) ∧ w'.cell? ⟨W.heap.size, 0, none⟩ = some (.int .i64 x0) ∧ w'.cell? ⟨W.heap.size, 1, none⟩ = some (.int .i64 x1) ∧ w'.cell? ⟨W.heap.size, 2, none⟩ = some (.bool true) ∧ Below w.heap.size w w' ∧ W.heap.size < w'.heap.size
theorem Hold.below {B C : Nat} {off n x0 x1 : Int} {w W w' w1 : World} (h : Hold B C off n x0 x1 w W w') (hb : Below w'.heap.size w' w1) : Hold B C off n x0 x1 w W w1 := by
  obtain ⟨h1, h2, h3, h4, h5, h6, h7⟩ := h
  exact ⟨pw_cell_below hb h1, pw_cell_below hb h2, pw_cell_below hb h3, pw_cell_below hb h4, pw_cell_below hb h5, below_step h6 hb, Nat.lt_of_lt_of_le h7 hb.size⟩
def holdsB (off n : Int) (x : S35) : Bool := x.f2 && (decide (offV x.f0 ≤ off) && decide (off ≤ wrap64 (wrap64 (wrap64 (x.f0 + x.f1) * 8) - n)))
set_option maxHeartbeats 2000000 in
theorem pred72 (off n : Int) (B C : Nat) (w : World) (hB : B < w.heap.size) (hC : C < w.heap.size) (hcell : w.cell? ⟨B, 0, none⟩ = some (.int .i64 off)) (hcell2 : w.cell? ⟨C, 0, none⟩ = some (.int .i64 n)) :
    PredBelow Try.prog 72 #[.pointer (some ⟨B, 0, none⟩), .pointer (some ⟨C, 0, none⟩)] (fun x : S35 => .agg (enc35 x).toArray) (holdsB off n) w := fun W x hb => by
  have hc : W.cell? ⟨B, 0, none⟩ = some (.int .i64 off) := (hb.cell (p := ⟨B, 0, none⟩) hB).trans hcell
  have hd : W.cell? ⟨C, 0, none⟩ = some (.int .i64 n) := (hb.cell (p := ⟨C, 0, none⟩) hC).trans hcell2
  have hBW : B < W.heap.size := Nat.lt_of_lt_of_le hB hb.size
  have hCW : C < W.heap.size := Nat.lt_of_lt_of_le hC hb.size
  obtain ⟨x0, x1, x2⟩ := x
  have ho := off_v x0 x1 x2
  obtain ⟨v, hv⟩ : ∃ v, offV x0 = v := ⟨_, rfl⟩
  rw [hv] at ho
  replace ho := Lib.hid ho
  show Calls Try.prog 72 #[.agg #[.int .i64 x0, .int .i64 x1, .bool x2], .pointer (some ⟨B, 0, none⟩), .pointer (some ⟨C, 0, none⟩)] W _
  cases x2
  · go_enter Try.func72, Try.ntmps72
    go_wp2
    go_quiet (fail)
    go_wp2
    go_ret
    exact ⟨by simp [holdsB], by repeat (first | exact hb.alloc hb.size _ | apply below_alloc | apply pw_below_drewN | apply below_drew1)⟩
  have hS0 : Hold B C off n x0 x1 w W (W.alloc (.cells #[.int .i64 x0, .int .i64 x1, .bool true] 35)).drew := by
    have hblk : (W.alloc (.cells #[.int .i64 x0, .int .i64 x1, .bool true] 35)).heap[W.heap.size]? = some (.cells #[.int .i64 x0, .int .i64 x1, .bool true] 35 (0, 0)) := heap_alloc_new W _
    refine ⟨pw_cell_below (below_alloc (Below.refl _ _) _) hc, pw_cell_below (below_alloc (Below.refl _ _) _) hd, (blk_cell hblk 0).trans rfl, (blk_cell hblk 1).trans rfl, (blk_cell hblk 2).trans rfl, below_drew1 (hb.alloc hb.size _), by simp⟩
  replace hS0 := Lib.hid hS0
  by_cases cv : v ≤ off
  · have cvb : decide (v ≤ off) = true := decide_eq_true cv
    clear cv
    have hfin : Hid (holdsB off n ⟨x0, x1, true⟩ = decide (off ≤ wrap64 (wrap64 (wrap64 (x0 + x1) * 8) - n))) := Lib.hid (by simp only [holdsB]; rw [hv, cvb]; simp)
    replace hv := Lib.hid hv
    go_enter Try.func72, Try.ntmps72
    go_wp2
    refine start_ (n := 21) (S := Hold B C off n x0 x1 w W) (ds := []) #[false, false, false, false, false, false, false, false, false, false, false, false, false, false, false, false, false, false, false, false, false] (by kernel_rfl) rfl rfl hS0.out (fun hS => ?_)
    refine pure_ (i := 0) (N := some 5) (v := .pointer (some ⟨W.heap.size, 2, none⟩)) (a' := ?a1_) #[true, false, false, false, false, false, false, false, false, false, false, false, false, false, false, false, false, false, false, false, false] rfl rfl (by kernel_rfl) (fun _ _ _ h => h) (.inl ⟨by rfl, ?hy1_⟩) ?ha1_ ?h1_
    case hy1_ =>
      intro w'
      go_simp
      try first | rfl | exact i64_w _ | (simp only [i64_w]; done)
    case ha1_ =>
      simp only [Act.put, List.setIfInBounds_toArray, List.set_cons_zero, List.set_cons_succ]
      rfl
    refine take_ (i := 1) (N := some 6) (v := .bool true) (a' := ?a2_) #[true, true, false, false, false, false, false, false, false, false, false, false, false, false, false, false, false, false, false, false, false] rfl rfl (by kernel_rfl) (fun _ _ _ h => h) (.inl ⟨by rfl, ?hy2_⟩) hS ?ha2_ ?h2_
    case hy2_ =>
      rintro w' ⟨q1, q2, q3, q4, q5, q6, q7⟩
      go_simp
      try first | rfl | exact i64_w _ | (simp only [i64_w]; done)
    case ha2_ =>
      simp only [Act.put, List.setIfInBounds_toArray, List.set_cons_zero, List.set_cons_succ]
      rfl
    refine pure_ (i := 2) (N := some 7) (v := .bool true) (a' := ?a3_) #[true, true, true, false, false, false, false, false, false, false, false, false, false, false, false, false, false, false, false, false, false] rfl rfl (by kernel_rfl) (fun _ _ _ h => h) (.inl ⟨by rfl, ?hy3_⟩) ?ha3_ ?h3_
    case hy3_ =>
      intro w'
      go_simp
      try first | rfl | exact i64_w _ | (simp only [i64_w]; done)
    case ha3_ =>
      simp only [Act.put, List.setIfInBounds_toArray, List.set_cons_zero, List.set_cons_succ]
      rfl
    refine take_ (i := 3) (N := some 8) (v := .int .i64 off) (a' := ?a4_) #[true, true, true, true, false, false, false, false, false, false, false, false, false, false, false, false, false, false, false, false, false] rfl rfl (by kernel_rfl) (fun _ _ _ h => h) (.inl ⟨by rfl, ?hy4_⟩) hS ?ha4_ ?h4_
    case hy4_ =>
      rintro w' ⟨q1, q2, q3, q4, q5, q6, q7⟩
      go_simp
      try first | rfl | exact i64_w _ | (simp only [i64_w]; done)
    case ha4_ =>
      simp only [Act.put, List.setIfInBounds_toArray, List.set_cons_zero, List.set_cons_succ]
      rfl
    refine take_ (i := 4) (N := some 9) (v := .agg #[.int .i64 x0, .int .i64 x1, .bool true]) (a' := ?a5_) #[true, true, true, true, true, false, false, false, false, false, false, false, false, false, false, false, false, false, false, false, false] rfl rfl (by kernel_rfl) (fun _ _ _ h => h) (.inl ⟨by rfl, ?hy5_⟩) hS ?ha5_ ?h5_
    case hy5_ =>
      rintro w' ⟨q1, q2, q3, q4, q5, q6, q7⟩
      go_simp
      try first | rfl | exact i64_w _ | (simp only [i64_w]; done)
    case ha5_ =>
      simp only [Act.put, List.setIfInBounds_toArray, List.set_cons_zero, List.set_cons_succ]
      rfl
    refine one_ (i := 5) (N := some 10) #[true, true, true, true, true, true, false, false, false, false, false, false, false, false, false, false, false, false, false, false, false] rfl rfl (by kernel_rfl) (by decide) (fun K hK => ?_)
    refine goes_ Try.func28 (by kernel_rfl) rfl #[.agg #[.int .i64 x0, .int .i64 x1, .bool true]] (by rfl) rfl rfl (by simp [Act.eval]) ?_
    with_reducible refine (carve_Off.calls x0 x1 true v _ ho.out).mono ?_
    rintro e w1 ⟨rfl, hb1⟩
    refine ⟨_, rfl, ?_⟩
    have hS1 := Hold.below hS hb1
    refine hK.out _ _ hS1 (fun hS => ?_)
    clear hK K
    refine norm_ (a' := ?a6_) ?ha6_ ?h6_
    case ha6_ =>
      simp only [Act.put, List.setIfInBounds_toArray, List.set_cons_zero, List.set_cons_succ]
      rfl
    refine pure_ (i := 6) (N := some 11) (v := .bool true) (a' := ?a7_) #[true, true, true, true, true, true, true, false, false, false, false, false, false, false, false, false, false, false, false, false, false] rfl rfl (by kernel_rfl) (fun _ _ _ h => h) (.inl ⟨by rfl, ?hy7_⟩) ?ha7_ ?h7_
    case hy7_ =>
      intro w'
      go_simp
      try first | rfl | exact i64_w _ | (simp only [i64_w]; done)
    case ha7_ =>
      simp only [Act.put, List.setIfInBounds_toArray, List.set_cons_zero, List.set_cons_succ]
      rfl
    refine pure_ (i := 7) (N := some 12) (v := .bool true) (a' := ?a8_) #[true, true, true, true, true, true, true, true, false, false, false, false, false, false, false, false, false, false, false, false, false] rfl rfl (by kernel_rfl) (fun _ _ _ h => h) (.inl ⟨by rfl, ?hy8_⟩) ?ha8_ ?h8_
    case hy8_ =>
      intro w'
      go_simp
      try first | rfl | exact i64_w _ | (simp only [i64_w]; done)
    case ha8_ =>
      simp only [Act.put, List.setIfInBounds_toArray, List.set_cons_zero, List.set_cons_succ]
      rfl
    refine pure_ (i := 8) (N := some 13) (v := .bool true) (a' := ?a9_) #[true, true, true, true, true, true, true, true, true, false, false, false, false, false, false, false, false, false, false, false, false] rfl rfl (by kernel_rfl) (fun _ _ _ h => h) (.inl ⟨by rfl, ?hy9_⟩) ?ha9_ ?h9_
    case hy9_ =>
      intro w'
      go_simp
      try first | rfl | exact i64_w _ | (simp only [i64_w]; done)
    case ha9_ =>
      simp only [Act.put, List.setIfInBounds_toArray, List.set_cons_zero, List.set_cons_succ]
      rfl
    refine take_ (i := 9) (N := some 14) (v := .int .i64 off) (a' := ?a10_) #[true, true, true, true, true, true, true, true, true, true, false, false, false, false, false, false, false, false, false, false, false] rfl rfl (by kernel_rfl) (fun _ _ _ h => h) (.inl ⟨by rfl, ?hy10_⟩) hS ?ha10_ ?h10_
    case hy10_ =>
      rintro w' ⟨q1, q2, q3, q4, q5, q6, q7⟩
      go_simp
      try first | rfl | exact i64_w _ | (simp only [i64_w]; done)
    case ha10_ =>
      simp only [Act.put, List.setIfInBounds_toArray, List.set_cons_zero, List.set_cons_succ]
      rfl
    refine pure_ (i := 10) (N := some 15) (v := .pointer (some ⟨W.heap.size, 0, none⟩)) (a' := ?a11_) #[true, true, true, true, true, true, true, true, true, true, true, false, false, false, false, false, false, false, false, false, false] rfl rfl (by kernel_rfl) (fun _ _ _ h => h) (.inl ⟨by rfl, ?hy11_⟩) ?ha11_ ?h11_
    case hy11_ =>
      intro w'
      go_simp
      try first | rfl | exact i64_w _ | (simp only [i64_w]; done)
    case ha11_ =>
      simp only [Act.put, List.setIfInBounds_toArray, List.set_cons_zero, List.set_cons_succ]
      rfl
    refine take_ (i := 11) (N := some 16) (v := .int .i64 x0) (a' := ?a12_) #[true, true, true, true, true, true, true, true, true, true, true, true, false, false, false, false, false, false, false, false, false] rfl rfl (by kernel_rfl) (fun _ _ _ h => h) (.inl ⟨by rfl, ?hy12_⟩) hS ?ha12_ ?h12_
    case hy12_ =>
      rintro w' ⟨q1, q2, q3, q4, q5, q6, q7⟩
      go_simp
      try first | rfl | exact i64_w _ | (simp only [i64_w]; done)
    case ha12_ =>
      simp only [Act.put, List.setIfInBounds_toArray, List.set_cons_zero, List.set_cons_succ]
      rfl
    refine pure_ (i := 12) (N := some 17) (v := .pointer (some ⟨W.heap.size, 1, none⟩)) (a' := ?a13_) #[true, true, true, true, true, true, true, true, true, true, true, true, true, false, false, false, false, false, false, false, false] rfl rfl (by kernel_rfl) (fun _ _ _ h => h) (.inl ⟨by rfl, ?hy13_⟩) ?ha13_ ?h13_
    case hy13_ =>
      intro w'
      go_simp
      try first | rfl | exact i64_w _ | (simp only [i64_w]; done)
    case ha13_ =>
      simp only [Act.put, List.setIfInBounds_toArray, List.set_cons_zero, List.set_cons_succ]
      rfl
    refine take_ (i := 13) (N := some 18) (v := .int .i64 x1) (a' := ?a14_) #[true, true, true, true, true, true, true, true, true, true, true, true, true, true, false, false, false, false, false, false, false] rfl rfl (by kernel_rfl) (fun _ _ _ h => h) (.inl ⟨by rfl, ?hy14_⟩) hS ?ha14_ ?h14_
    case hy14_ =>
      rintro w' ⟨q1, q2, q3, q4, q5, q6, q7⟩
      go_simp
      try first | rfl | exact i64_w _ | (simp only [i64_w]; done)
    case ha14_ =>
      simp only [Act.put, List.setIfInBounds_toArray, List.set_cons_zero, List.set_cons_succ]
      rfl
    refine pure_ (i := 14) (N := some 19) (v := .int .i64 (wrap64 (x0 + x1))) (a' := ?a15_) #[true, true, true, true, true, true, true, true, true, true, true, true, true, true, true, false, false, false, false, false, false] rfl rfl (by kernel_rfl) (fun _ _ _ h => h) (.inl ⟨by rfl, ?hy15_⟩) ?ha15_ ?h15_
    case hy15_ =>
      intro w'
      go_simp
      try first | rfl | exact i64_w _ | (simp only [i64_w]; done)
    case ha15_ =>
      simp only [Act.put, List.setIfInBounds_toArray, List.set_cons_zero, List.set_cons_succ]
      rfl
    refine pure_ (i := 15) (N := some 20) (v := .int .i64 (wrap64 (wrap64 (x0 + x1) * 8))) (a' := ?a16_) #[true, true, true, true, true, true, true, true, true, true, true, true, true, true, true, true, false, false, false, false, false] rfl rfl (by kernel_rfl) (fun _ _ _ h => h) (.inl ⟨by rfl, ?hy16_⟩) ?ha16_ ?h16_
    case hy16_ =>
      intro w'
      go_simp
      try first | rfl | exact i64_w _ | (simp only [i64_w]; done)
    case ha16_ =>
      simp only [Act.put, List.setIfInBounds_toArray, List.set_cons_zero, List.set_cons_succ]
      rfl
    refine take_ (i := 16) (N := some 21) (v := .int .i64 n) (a' := ?a17_) #[true, true, true, true, true, true, true, true, true, true, true, true, true, true, true, true, true, false, false, false, false] rfl rfl (by kernel_rfl) (fun _ _ _ h => h) (.inl ⟨by rfl, ?hy17_⟩) hS ?ha17_ ?h17_
    case hy17_ =>
      rintro w' ⟨q1, q2, q3, q4, q5, q6, q7⟩
      go_simp
      try first | rfl | exact i64_w _ | (simp only [i64_w]; done)
    case ha17_ =>
      simp only [Act.put, List.setIfInBounds_toArray, List.set_cons_zero, List.set_cons_succ]
      rfl
    refine pure_ (i := 17) (N := some 22) (v := .int .i64 (wrap64 (wrap64 (wrap64 (x0 + x1) * 8) - n))) (a' := ?a18_) #[true, true, true, true, true, true, true, true, true, true, true, true, true, true, true, true, true, true, false, false, false] rfl rfl (by kernel_rfl) (fun _ _ _ h => h) (.inl ⟨by rfl, ?hy18_⟩) ?ha18_ ?h18_
    case hy18_ =>
      intro w'
      go_simp
      try first | rfl | exact i64_w _ | (simp only [i64_w]; done)
    case ha18_ =>
      simp only [Act.put, List.setIfInBounds_toArray, List.set_cons_zero, List.set_cons_succ]
      rfl
    refine pure_ (i := 18) (N := some 23) (v := .bool (decide (off ≤ wrap64 (wrap64 (wrap64 (x0 + x1) * 8) - n)))) (a' := ?a19_) #[true, true, true, true, true, true, true, true, true, true, true, true, true, true, true, true, true, true, true, false, false] rfl rfl (by kernel_rfl) (fun _ _ _ h => h) (.inl ⟨by rfl, ?hy19_⟩) ?ha19_ ?h19_
    case hy19_ =>
      intro w'
      go_simp
      try first | rfl | exact i64_w _ | (simp only [i64_w]; done)
    case ha19_ =>
      simp only [Act.put, List.setIfInBounds_toArray, List.set_cons_zero, List.set_cons_succ]
      rfl
    refine pure_ (i := 19) (N := some 24) (v := .bool (decide (off ≤ wrap64 (wrap64 (wrap64 (x0 + x1) * 8) - n)))) (a' := ?a20_) #[true, true, true, true, true, true, true, true, true, true, true, true, true, true, true, true, true, true, true, true, false] rfl rfl (by kernel_rfl) (fun _ _ _ h => h) (.inl ⟨by rfl, ?hy20_⟩) ?ha20_ ?h20_
    case hy20_ =>
      intro w'
      go_simp
      try first | rfl | exact i64_w _ | (simp only [i64_w]; done)
    case ha20_ =>
      simp only [Act.put, List.setIfInBounds_toArray, List.set_cons_zero, List.set_cons_succ]
      rfl
    refine pure_ (i := 20) (N := some 4) (v := .bool (decide (off ≤ wrap64 (wrap64 (wrap64 (x0 + x1) * 8) - n)))) (a' := ?a21_) #[true, true, true, true, true, true, true, true, true, true, true, true, true, true, true, true, true, true, true, true, true] rfl rfl (by kernel_rfl) (fun _ _ _ h => h) (.inl ⟨by rfl, ?hy21_⟩) ?ha21_ ?h21_
    case hy21_ =>
      intro w'
      go_simp
      try first | rfl | exact i64_w _ | (simp only [i64_w]; done)
    case ha21_ =>
      simp only [Act.put, List.setIfInBounds_toArray, List.set_cons_zero, List.set_cons_succ]
      rfl
    refine done_ (by kernel_rfl) ?_
    simp only [Act.put, List.setIfInBounds_toArray, List.set_cons_zero, List.set_cons_succ, Exit.then]
    go_wp2
    go_ret
    exact ⟨by rw [hfin.out]; rfl, hS.2.2.2.2.2.1⟩
  · have cvb : decide (v ≤ off) = false := decide_eq_false cv
    clear cv
    have hfin : Hid (holdsB off n ⟨x0, x1, true⟩ = false) := Lib.hid (by simp only [holdsB]; rw [hv, cvb]; simp)
    replace hv := Lib.hid hv
    go_enter Try.func72, Try.ntmps72
    go_wp2
    refine start_ (n := 21) (S := Hold B C off n x0 x1 w W) (ds := []) #[false, false, false, false, false, false, false, false, false, false, false, false, false, false, false, false, false, false, false, false, false] (by kernel_rfl) rfl rfl hS0.out (fun hS => ?_)
    refine pure_ (i := 0) (N := some 5) (v := .pointer (some ⟨W.heap.size, 2, none⟩)) (a' := ?a22_) #[true, false, false, false, false, false, false, false, false, false, false, false, false, false, false, false, false, false, false, false, false] rfl rfl (by kernel_rfl) (fun _ _ _ h => h) (.inl ⟨by rfl, ?hy22_⟩) ?ha22_ ?h22_
    case hy22_ =>
      intro w'
      go_simp
      try first | rfl | exact i64_w _ | (simp only [i64_w]; done)
    case ha22_ =>
      simp only [Act.put, List.setIfInBounds_toArray, List.set_cons_zero, List.set_cons_succ]
      rfl
    refine take_ (i := 1) (N := some 6) (v := .bool true) (a' := ?a23_) #[true, true, false, false, false, false, false, false, false, false, false, false, false, false, false, false, false, false, false, false, false] rfl rfl (by kernel_rfl) (fun _ _ _ h => h) (.inl ⟨by rfl, ?hy23_⟩) hS ?ha23_ ?h23_
    case hy23_ =>
      rintro w' ⟨q1, q2, q3, q4, q5, q6, q7⟩
      go_simp
      try first | rfl | exact i64_w _ | (simp only [i64_w]; done)
    case ha23_ =>
      simp only [Act.put, List.setIfInBounds_toArray, List.set_cons_zero, List.set_cons_succ]
      rfl
    refine pure_ (i := 2) (N := some 7) (v := .bool true) (a' := ?a24_) #[true, true, true, false, false, false, false, false, false, false, false, false, false, false, false, false, false, false, false, false, false] rfl rfl (by kernel_rfl) (fun _ _ _ h => h) (.inl ⟨by rfl, ?hy24_⟩) ?ha24_ ?h24_
    case hy24_ =>
      intro w'
      go_simp
      try first | rfl | exact i64_w _ | (simp only [i64_w]; done)
    case ha24_ =>
      simp only [Act.put, List.setIfInBounds_toArray, List.set_cons_zero, List.set_cons_succ]
      rfl
    refine take_ (i := 3) (N := some 8) (v := .int .i64 off) (a' := ?a25_) #[true, true, true, true, false, false, false, false, false, false, false, false, false, false, false, false, false, false, false, false, false] rfl rfl (by kernel_rfl) (fun _ _ _ h => h) (.inl ⟨by rfl, ?hy25_⟩) hS ?ha25_ ?h25_
    case hy25_ =>
      rintro w' ⟨q1, q2, q3, q4, q5, q6, q7⟩
      go_simp
      try first | rfl | exact i64_w _ | (simp only [i64_w]; done)
    case ha25_ =>
      simp only [Act.put, List.setIfInBounds_toArray, List.set_cons_zero, List.set_cons_succ]
      rfl
    refine take_ (i := 4) (N := some 9) (v := .agg #[.int .i64 x0, .int .i64 x1, .bool true]) (a' := ?a26_) #[true, true, true, true, true, false, false, false, false, false, false, false, false, false, false, false, false, false, false, false, false] rfl rfl (by kernel_rfl) (fun _ _ _ h => h) (.inl ⟨by rfl, ?hy26_⟩) hS ?ha26_ ?h26_
    case hy26_ =>
      rintro w' ⟨q1, q2, q3, q4, q5, q6, q7⟩
      go_simp
      try first | rfl | exact i64_w _ | (simp only [i64_w]; done)
    case ha26_ =>
      simp only [Act.put, List.setIfInBounds_toArray, List.set_cons_zero, List.set_cons_succ]
      rfl
    refine one_ (i := 5) (N := some 10) #[true, true, true, true, true, true, false, false, false, false, false, false, false, false, false, false, false, false, false, false, false] rfl rfl (by kernel_rfl) (by decide) (fun K hK => ?_)
    refine goes_ Try.func28 (by kernel_rfl) rfl #[.agg #[.int .i64 x0, .int .i64 x1, .bool true]] (by rfl) rfl rfl (by simp [Act.eval]) ?_
    with_reducible refine (carve_Off.calls x0 x1 true v _ ho.out).mono ?_
    rintro e w1 ⟨rfl, hb1⟩
    refine ⟨_, rfl, ?_⟩
    have hS1 := Hold.below hS hb1
    refine hK.out _ _ hS1 (fun hS => ?_)
    clear hK K
    refine norm_ (a' := ?a27_) ?ha27_ ?h27_
    case ha27_ =>
      simp only [Act.put, List.setIfInBounds_toArray, List.set_cons_zero, List.set_cons_succ]
      rfl
    refine pure_ (i := 6) (N := some 11) (v := .bool false) (a' := ?a28_) #[true, true, true, true, true, true, true, false, false, false, false, false, false, false, false, false, false, false, false, false, false] rfl rfl (by kernel_rfl) (fun _ _ _ h => h) (.inl ⟨by rfl, ?hy28_⟩) ?ha28_ ?h28_
    case hy28_ =>
      intro w'
      go_simp
      try first | rfl | exact i64_w _ | (simp only [i64_w]; done)
    case ha28_ =>
      simp only [Act.put, List.setIfInBounds_toArray, List.set_cons_zero, List.set_cons_succ]
      rfl
    refine pure_ (i := 7) (N := some 12) (v := .bool false) (a' := ?a29_) #[true, true, true, true, true, true, true, true, false, false, false, false, false, false, false, false, false, false, false, false, false] rfl rfl (by kernel_rfl) (fun _ _ _ h => h) (.inl ⟨by rfl, ?hy29_⟩) ?ha29_ ?h29_
    case hy29_ =>
      intro w'
      go_simp
      try first | rfl | exact i64_w _ | (simp only [i64_w]; done)
    case ha29_ =>
      simp only [Act.put, List.setIfInBounds_toArray, List.set_cons_zero, List.set_cons_succ]
      rfl
    refine pure_ (i := 8) (N := some 13) (v := .bool false) (a' := ?a30_) #[true, true, true, true, true, true, true, true, true, false, false, false, false, false, false, false, false, false, false, false, false] rfl rfl (by kernel_rfl) (fun _ _ _ h => h) (.inl ⟨by rfl, ?hy30_⟩) ?ha30_ ?h30_
    case hy30_ =>
      intro w'
      go_simp
      try first | rfl | exact i64_w _ | (simp only [i64_w]; done)
    case ha30_ =>
      simp only [Act.put, List.setIfInBounds_toArray, List.set_cons_zero, List.set_cons_succ]
      rfl
    refine pure_ (i := 9) (N := some 14) (v := undef) (a' := ?a31_) #[true, true, true, true, true, true, true, true, true, true, false, false, false, false, false, false, false, false, false, false, false] rfl rfl (by kernel_rfl) (fun _ _ _ h => h) (.inr ⟨by rfl, rfl⟩) ?ha31_ ?h31_
    case ha31_ =>
      simp only [Act.put, List.setIfInBounds_toArray, List.set_cons_zero, List.set_cons_succ]
      rfl
    refine pure_ (i := 10) (N := some 15) (v := undef) (a' := ?a32_) #[true, true, true, true, true, true, true, true, true, true, true, false, false, false, false, false, false, false, false, false, false] rfl rfl (by kernel_rfl) (fun _ _ _ h => h) (.inr ⟨by rfl, rfl⟩) ?ha32_ ?h32_
    case ha32_ =>
      simp only [Act.put, List.setIfInBounds_toArray, List.set_cons_zero, List.set_cons_succ]
      rfl
    refine pure_ (i := 11) (N := some 16) (v := undef) (a' := ?a33_) #[true, true, true, true, true, true, true, true, true, true, true, true, false, false, false, false, false, false, false, false, false] rfl rfl (by kernel_rfl) (fun _ _ _ h => h) (.inr ⟨by rfl, rfl⟩) ?ha33_ ?h33_
    case ha33_ =>
      simp only [Act.put, List.setIfInBounds_toArray, List.set_cons_zero, List.set_cons_succ]
      rfl
    refine pure_ (i := 12) (N := some 17) (v := undef) (a' := ?a34_) #[true, true, true, true, true, true, true, true, true, true, true, true, true, false, false, false, false, false, false, false, false] rfl rfl (by kernel_rfl) (fun _ _ _ h => h) (.inr ⟨by rfl, rfl⟩) ?ha34_ ?h34_
    case ha34_ =>
      simp only [Act.put, List.setIfInBounds_toArray, List.set_cons_zero, List.set_cons_succ]
      rfl
    refine pure_ (i := 13) (N := some 18) (v := undef) (a' := ?a35_) #[true, true, true, true, true, true, true, true, true, true, true, true, true, true, false, false, false, false, false, false, false] rfl rfl (by kernel_rfl) (fun _ _ _ h => h) (.inr ⟨by rfl, rfl⟩) ?ha35_ ?h35_
    case ha35_ =>
      simp only [Act.put, List.setIfInBounds_toArray, List.set_cons_zero, List.set_cons_succ]
      rfl
    refine pure_ (i := 14) (N := some 19) (v := undef) (a' := ?a36_) #[true, true, true, true, true, true, true, true, true, true, true, true, true, true, true, false, false, false, false, false, false] rfl rfl (by kernel_rfl) (fun _ _ _ h => h) (.inr ⟨by rfl, rfl⟩) ?ha36_ ?h36_
    case ha36_ =>
      simp only [Act.put, List.setIfInBounds_toArray, List.set_cons_zero, List.set_cons_succ]
      rfl
    refine pure_ (i := 15) (N := some 20) (v := undef) (a' := ?a37_) #[true, true, true, true, true, true, true, true, true, true, true, true, true, true, true, true, false, false, false, false, false] rfl rfl (by kernel_rfl) (fun _ _ _ h => h) (.inr ⟨by rfl, rfl⟩) ?ha37_ ?h37_
    case ha37_ =>
      simp only [Act.put, List.setIfInBounds_toArray, List.set_cons_zero, List.set_cons_succ]
      rfl
    refine pure_ (i := 16) (N := some 21) (v := undef) (a' := ?a38_) #[true, true, true, true, true, true, true, true, true, true, true, true, true, true, true, true, true, false, false, false, false] rfl rfl (by kernel_rfl) (fun _ _ _ h => h) (.inr ⟨by rfl, rfl⟩) ?ha38_ ?h38_
    case ha38_ =>
      simp only [Act.put, List.setIfInBounds_toArray, List.set_cons_zero, List.set_cons_succ]
      rfl
    refine pure_ (i := 17) (N := some 22) (v := undef) (a' := ?a39_) #[true, true, true, true, true, true, true, true, true, true, true, true, true, true, true, true, true, true, false, false, false] rfl rfl (by kernel_rfl) (fun _ _ _ h => h) (.inr ⟨by rfl, rfl⟩) ?ha39_ ?h39_
    case ha39_ =>
      simp only [Act.put, List.setIfInBounds_toArray, List.set_cons_zero, List.set_cons_succ]
      rfl
    refine pure_ (i := 18) (N := some 23) (v := undef) (a' := ?a40_) #[true, true, true, true, true, true, true, true, true, true, true, true, true, true, true, true, true, true, true, false, false] rfl rfl (by kernel_rfl) (fun _ _ _ h => h) (.inr ⟨by rfl, rfl⟩) ?ha40_ ?h40_
    case ha40_ =>
      simp only [Act.put, List.setIfInBounds_toArray, List.set_cons_zero, List.set_cons_succ]
      rfl
    refine pure_ (i := 19) (N := some 24) (v := .bool false) (a' := ?a41_) #[true, true, true, true, true, true, true, true, true, true, true, true, true, true, true, true, true, true, true, true, false] rfl rfl (by kernel_rfl) (fun _ _ _ h => h) (.inl ⟨by rfl, ?hy41_⟩) ?ha41_ ?h41_
    case hy41_ =>
      intro w'
      go_simp
      try first | rfl | exact i64_w _ | (simp only [i64_w]; done)
    case ha41_ =>
      simp only [Act.put, List.setIfInBounds_toArray, List.set_cons_zero, List.set_cons_succ]
      rfl
    refine pure_ (i := 20) (N := some 4) (v := .bool false) (a' := ?a42_) #[true, true, true, true, true, true, true, true, true, true, true, true, true, true, true, true, true, true, true, true, true] rfl rfl (by kernel_rfl) (fun _ _ _ h => h) (.inl ⟨by rfl, ?hy42_⟩) ?ha42_ ?h42_
    case hy42_ =>
      intro w'
      go_simp
      try first | rfl | exact i64_w _ | (simp only [i64_w]; done)
    case ha42_ =>
      simp only [Act.put, List.setIfInBounds_toArray, List.set_cons_zero, List.set_cons_succ]
      rfl
    refine done_ (by kernel_rfl) ?_
    simp only [Act.put, List.setIfInBounds_toArray, List.set_cons_zero, List.set_cons_succ, Exit.then]
    go_wp2
    go_ret
    exact ⟨by rw [hfin.out]; rfl, hS.2.2.2.2.2.1⟩
theorem pred87 (off : Int) (B : Nat) (w : World) (hB : B < w.heap.size) (hcell : w.cell? ⟨B, 0, none⟩ = some (.int .i64 off)) :
    PredBelow Try.prog 87 #[.pointer (some ⟨B, 0, none⟩)] (fun x : S35 => .agg (enc35 x).toArray) (fun x => x.f2 && decide (offV x.f0 = off)) w := fun W x hb => by
  have hc : W.cell? ⟨B, 0, none⟩ = some (.int .i64 off) := (hb.cell (p := ⟨B, 0, none⟩) hB).trans hcell
  have hBW : B < W.heap.size := Nat.lt_of_lt_of_le hB hb.size
  have hne : B ≠ W.heap.size := by omega
  obtain ⟨x0, x1, x2⟩ := x
  have ho := off_v x0 x1 x2
  obtain ⟨v, hv⟩ : ∃ v, offV x0 = v := ⟨_, rfl⟩
  rw [hv] at ho
  show Calls Try.prog 87 #[.agg #[.int .i64 x0, .int .i64 x1, .bool x2], .pointer (some ⟨B, 0, none⟩)] W _
  cases x2
  · go_enter Try.func87, Try.ntmps87
    go_wp2
    go_quiet (fail)
    go_wp2
    go_ret
    exact ⟨by simp, by repeat (first | exact hb.alloc hb.size _ | apply below_alloc | apply pw_below_drewN | apply below_drew1)⟩
  · go_enter Try.func87, Try.ntmps87
    go_wp2
    go_region_with (go_at_call 28; refine (carve_Off.calls _ _ _ _ _ ho).mono ?_; rintro e w' ⟨rfl, hb'⟩; have hcB : w'.cell? ⟨B, 0, none⟩ = some (.int .i64 off) := (hb'.cell (p := ⟨B, 0, none⟩) (by simp; omega)).trans (by go_simp))
    all_goals (try go_wp2)
    all_goals go_ret
    all_goals exact ⟨by simp only [hv, Bool.true_and]; congr 2, below_step (by repeat (first | exact hb.alloc hb.size _ | apply below_drew1 | apply below_alloc | apply pw_below_drewN)) hb'⟩
theorem row35 {W : World} {A : Option Addr} {l : List S35} {g : Nat} (h : Kd.C k35 W A l.length l) (hA : A = some ⟨g, 0, none⟩) (i35 : Inhabited S35) :
    ∀ j, j < l.length → ∀ i v, (enc35 l[j]!)[i]? = some v → W.cell? ⟨g, 0 + j * 3 + i, none⟩ = some v := fun j hj i v hi => by
  obtain ⟨ad, e, hc⟩ := h.2.2 (by omega)
  rw [hA] at e
  obtain rfl := Option.some.inj e
  obtain ⟨c, hl, hK, hcell⟩ := hc j l[j] (List.getElem?_eq_getElem hj)
  have hcs := k35_open hK
  subst hcs
  rw [getElem!_pos l j hj] at hi
  have := hcell i v hi
  rw [add_plain] at this
  rw [Nat.zero_add]
  exact this
def findS (off : Int) : List S35 → Nat → Int
  | [], _ => -1
  | y :: r, i => if (y.f2 && decide (offV y.f0 = off)) = true then (i : Int) else findS off r (i + 1)
theorem find_idx (off : Int) (d : S35) : ∀ (l : List S35) (i : Nat), Lib.idxByFrom (fun _ y => y.f2 && decide (offV y.f0 = off)) d l i = findS off l i
  | [], _ => rfl
  | y :: r, i => by
    show (if (y.f2 && decide (offV y.f0 = off)) = true then (i : Int) else Lib.idxByFrom _ d r (i + 1)) = _
    rw [find_idx off d r (i + 1)]
    rfl
theorem nil86 (c : Nat) (f : Value) (w : World) : Calls Try.prog 86 #[.slice none 0 c, f] w fun e w' => e = .returned (.int .i64 (-1)) ∧ Below w.heap.size w w' := by
  go_enter Try.func86, Try.ntmps86
  go_wp2
  refine wp_loop_rounds 1 ?_
  rw [rounds_succ]
  go_wp2
  go_ret
  exact ⟨rfl, by repeat (first | exact Below.refl _ _ | apply below_alloc | apply pw_below_drewN | apply below_drew1)⟩
theorem nil71 (c : Nat) (f : Value) (w : World) : Calls Try.prog 71 #[.slice none 0 c, f] w fun e w' => e = .returned (.bool false) ∧ Below w.heap.size w w' := by
  go_enter Try.func71, Try.ntmps71
  go_wp2_with (go_at_call 86; refine (nil86 c f _).mono ?_; rintro e w' ⟨rfl, hb⟩)
  go_ret
  exact ⟨rfl, by first | exact hb | exact below_step (by repeat (first | exact Below.refl _ _ | apply below_alloc | apply pw_below_drewN | apply below_drew1)) hb⟩
theorem own_form {W : World} {base : Nat} {v : Value} {l : List S35} (h : Kd.R k35 35 W base (fun _ => True) v l) : (v = .slice none 0 0 ∧ l = []) ∨ ∃ g c, v = .slice (some ⟨g, 0, none⟩) l.length c ∧ g < W.heap.size := by
  obtain ⟨inner, ho⟩ := Kd.R_own h
  rcases ho.2 with ⟨rfl, hn⟩ | ⟨g, cap, cur, rfl, hg, hh, _⟩
  · exact .inl ⟨rfl, List.eq_nil_of_length_eq_zero hn⟩
  · exact .inr ⟨g, cap, rfl, blk_lt hh⟩
theorem index86 (off : Int) (B : Nat) (W : World) (v : Value) (l : List S35) (base : Nat) (h : Kd.R k35 35 W base (fun _ => True) v l) (hB : B < W.heap.size) (hcell : W.cell? ⟨B, 0, none⟩ = some (.int .i64 off)) :
    Calls Try.prog 86 #[v, .func (.func 87) #[] #[.pointer (some ⟨B, 0, none⟩)]] W fun e w' => e = .returned (.int .i64 (findS off l 0)) ∧ Below W.heap.size W w' := by
  rcases own_form h with ⟨rfl, rfl⟩ | ⟨g, c, rfl, hg⟩
  · exact nil86 0 _ W
  · obtain ⟨A, c', e, hc, hC⟩ := Kd.R_reads h
    have hA : A = some ⟨g, 0, none⟩ := by injection e with e1 _ _; exact e1.symm
    let i35 : Inhabited S35 := ⟨⟨0, 0, false⟩⟩
    have H := AnyQ.slices_IndexFunc (P := Try.prog) (ρ := ren86) (α := S35) lay86 3 Try.isAgg35 Try.sizeOf35 enc35 (fun _ => rfl) (fun x => x.f2 && decide (offV x.f0 = off)) 87 #[.pointer (some ⟨B, 0, none⟩)] (enters_ Try.func87 (by kernel_rfl) rfl) g 0 l.length c l W (pred87 off B W hB hcell) (Nat.le_refl _) hC.2.1 hg (row35 hC hA i35)
    refine H.mono ?_
    rintro e w' ⟨rfl, hb⟩
    refine ⟨?_, hb⟩
    rw [List.take_length]
    show Ending.returned (.int .i64 (Lib.idxByFrom _ _ l 0)) = _
    rw [find_idx]
theorem contains71 (off n : Int) (B C : Nat) (W : World) (v : Value) (l : List S35) (base : Nat) (h : Kd.R k35 35 W base (fun _ => True) v l) (hB : B < W.heap.size) (hC' : C < W.heap.size) (hcell : W.cell? ⟨B, 0, none⟩ = some (.int .i64 off)) (hcell2 : W.cell? ⟨C, 0, none⟩ = some (.int .i64 n)) :
    Calls Try.prog 71 #[v, .func (.func 72) #[] #[.pointer (some ⟨B, 0, none⟩), .pointer (some ⟨C, 0, none⟩)]] W fun e w' => e = .returned (.bool (l.any (holdsB off n))) ∧ Below W.heap.size W w' := by
  rcases own_form h with ⟨rfl, rfl⟩ | ⟨g, c, rfl, hg⟩
  · exact nil71 0 _ W
  · obtain ⟨A, c', e, hc, hC⟩ := Kd.R_reads h
    have hA : A = some ⟨g, 0, none⟩ := by injection e with e1 _ _; exact e1.symm
    let i35 : Inhabited S35 := ⟨⟨0, 0, false⟩⟩
    have H := AnyQ.slices_ContainsFunc (P := Try.prog) (ρ := ren86) (α := S35) lay71 3 Try.isAgg35 Try.sizeOf35 enc35 (fun _ => rfl) (holdsB off n) 72 #[.pointer (some ⟨B, 0, none⟩), .pointer (some ⟨C, 0, none⟩)] (enters_ Try.func72 (by kernel_rfl) rfl) g 0 l.length c l W (pred72 off n B C W hB hC' hcell hcell2) (Nat.le_refl _) hC.2.1 hg (row35 hC hA i35)
    refine H.mono ?_
    rintro e w' ⟨rfl, hb⟩
    exact ⟨by rw [List.take_length], hb⟩
end
def image_Holds.f (k : Nat) (l0 : List Int) (a1 : Int) (a2 : Int) : Option (Bool) := if a2 < 0 then (some false) else (if a2 > 448 then (some false) else ((chain_Blocks.f k l0).bind fun p => (some (p.1.any (holdsB a1 a2)))))
theorem image_Holds.mono : ∀ a0 a1 a2 k, LeO (image_Holds.f k a0 a1 a2) (image_Holds.f (k + 1) a0 a1 a2) := by
  intro a0 a1 a2 k
  unfold image_Holds.f
  exact LeO.ite (LeO.refl _) (LeO.ite (LeO.refl _) (LeO.bind (chain_Blocks.mono a0 k) (fun _ => LeO.refl _)))
set_option maxHeartbeats 4000000 in
theorem image_Holds.calls (k : Nat) (A0 : Option Addr) (c0 : Nat) (l0 : List Int) (a1 : Int) (a2 : Int) (r : Bool) (w : World) (hr0 : Kd.C (Kd.int .u64) w A0 l0.length l0) (hc0 : l0.length ≤ c0) (h : image_Holds.f k l0 a1 a2 = some r) :
    Calls Try.prog 42 #[.slice A0 l0.length c0, .int .i64 a1, .int .i64 a2] w fun e w' => e = .returned (.bool r) ∧ Below w.heap.size w w' := by
 have hmf : ∀ (fn : Fn) (first cap : Array Value) (w : World), (Instr.makeFunc fn first cap).run Try.prog w = .ok (.func fn first cap) w := fun _ _ _ _ => rfl
 have HR := Lib.hid hr0
 have HC := Lib.hid hc0
 clear hr0 hc0
 unfold image_Holds.f at h
 by_cases c1 : a2 < 0
 ·
  rw [if_pos c1] at h
  obtain rfl := Option.some.inj h
  have c1b : decide (a2 < 0) = true := decide_eq_true c1
  go_enter Try.func42, Try.ntmps42
  go_wp2
  go_ret
  exact ⟨rfl, by repeat (first | exact Below.refl _ _ | apply below_alloc | apply pw_below_drewN | apply below_drew1)⟩
 rw [if_neg c1] at h
 have c1b : decide (a2 < 0) = false := decide_eq_false c1
 by_cases c2 : a2 > 448
 ·
  rw [if_pos c2] at h
  obtain rfl := Option.some.inj h
  have c2b : decide (448 < a2) = true := decide_eq_true c2
  go_enter Try.func42, Try.ntmps42
  go_wp2
  go_ret
  exact ⟨rfl, by repeat (first | exact Below.refl _ _ | apply below_alloc | apply pw_below_drewN | apply below_drew1)⟩
 rw [if_neg c2] at h
 have c2b : decide (448 < a2) = false := decide_eq_false c2
 obtain ⟨⟨m, ok⟩, hb, hm⟩ := Option.bind_eq_some_iff.1 h
 obtain rfl := Option.some.inj hm
 have hb := Lib.hid hb
 clear h hm c1 c2
 have hW : Below w.heap.size w ((w.alloc (.cells #[.int .i64 a1] 3)).alloc (.cells #[.int .i64 a2] 3)) := below_alloc (below_alloc (Below.refl _ _) _) _
 have hB0 : ((w.alloc (.cells #[.int .i64 a1] 3)).alloc (.cells #[.int .i64 a2] 3)).cell? ⟨w.heap.size, 0, none⟩ = some (.int .i64 a1) := by
  have hh : ((w.alloc (.cells #[.int .i64 a1] 3)).alloc (.cells #[.int .i64 a2] 3)).heap[w.heap.size]? = some (.cells #[.int .i64 a1] 3 (0, 0)) := blk_grown (heap_alloc_new w _) (World.grownBy_alloc _ _ none) (by simp)
  rw [blk_cell hh]; rfl
 have hC0 : ((w.alloc (.cells #[.int .i64 a1] 3)).alloc (.cells #[.int .i64 a2] 3)).cell? ⟨w.heap.size + 1, 0, none⟩ = some (.int .i64 a2) := by
  have hh : ((w.alloc (.cells #[.int .i64 a1] 3)).alloc (.cells #[.int .i64 a2] 3)).heap[w.heap.size + 1]? = some (.cells #[.int .i64 a2] 3 (0, 0)) := by simpa using heap_alloc_new (w.alloc (.cells #[.int .i64 a1] 3)) (.cells #[.int .i64 a2] 3)
  rw [blk_cell hh]; rfl
 replace hB0 := Lib.hid hB0
 replace hC0 := Lib.hid hC0
 go_enter Try.func42, Try.ntmps42
 go_wp2_with (first
  | (go_at_call 35; (with_reducible refine (chain_Blocks.calls k _ _ l0 m ok _ ?s1 ?s2 hb.out).mono ?_); (case s1 => exact Kd.C_below HR.out hW); (case s2 => exact HC.out); rintro e w1 ⟨v, rfl, ho, hb1⟩; have hB1 := Lib.hid (pw_cell_below hb1 hB0.out); have hC1 := Lib.hid (pw_cell_below hb1 hC0.out); have hB' := Lib.hid (World.block_lt_of_cell? w1 _ hB1.out); have hC' := Lib.hid (World.block_lt_of_cell? w1 _ hC1.out); have ho := Lib.hid ho)
  | (go_at_call 71; (with_reducible refine (contains71 a1 a2 w.heap.size (w.heap.size + 1) _ v m _ ho.out hB'.out hC'.out hB1.out hC1.out).mono ?_); rintro e w2 ⟨rfl, hb2⟩))
 go_ret
 exact ⟨rfl, below_step (below_step hW hb1) hb2⟩

/-! ### image_find: function 73, told by hand -/
def image_find.f (k : Nat) (l0 : List Int) (a1 : Int) : Option (List (S35) × Int) := (chain_Blocks.f k l0).bind fun p => (some (p.1, findS a1 p.1 0))
theorem image_find.mono : ∀ a0 a1 k, LeO (image_find.f k a0 a1) (image_find.f (k + 1) a0 a1) := by
  intro a0 a1 k
  unfold image_find.f
  exact LeO.bind (chain_Blocks.mono a0 k) (fun _ => LeO.refl _)
set_option maxHeartbeats 4000000 in
theorem image_find.calls (k : Nat) (A0 : Option Addr) (c0 : Nat) (l0 : List Int) (a1 : Int) (r1 : List (S35)) (r2 : Int) (w : World) (hr0 : Kd.C (Kd.int .u64) w A0 l0.length l0) (hc0 : l0.length ≤ c0) (h : image_find.f k l0 a1 = some (r1, r2)) :
    Calls Try.prog 73 #[.slice A0 l0.length c0, .int .i64 a1] w fun e w' => ∃ v0_ : Value, e = .returned (.tuple #[v0_, .int .i64 r2]) ∧ Kd.R k35 35 w' w.heap.size (fun _ => True) v0_ r1 ∧ Below w.heap.size w w' := by
 have hmf : ∀ (fn : Fn) (first cap : Array Value) (w : World), (Instr.makeFunc fn first cap).run Try.prog w = .ok (.func fn first cap) w := fun _ _ _ _ => rfl
 have HR := Lib.hid hr0
 have HC := Lib.hid hc0
 clear hr0 hc0
 unfold image_find.f at h
 obtain ⟨⟨m, ok⟩, hb, hm⟩ := Option.bind_eq_some_iff.1 h
 simp only [Option.some.injEq, Prod.mk.injEq] at hm
 obtain ⟨rfl, rfl⟩ := hm
 have hb := Lib.hid hb
 clear h
 have hW : Below w.heap.size w (w.alloc (.cells #[.int .i64 a1] 3)) := below_alloc (Below.refl _ _) _
 have hB0 : (w.alloc (.cells #[.int .i64 a1] 3)).cell? ⟨w.heap.size, 0, none⟩ = some (.int .i64 a1) := by
  have hh : (w.alloc (.cells #[.int .i64 a1] 3)).heap[w.heap.size]? = some (.cells #[.int .i64 a1] 3 (0, 0)) := heap_alloc_new w _
  rw [blk_cell hh]; rfl
 replace hB0 := Lib.hid hB0
 go_enter Try.func73, Try.ntmps73
 go_wp2_with (first
  | (go_at_call 35; (with_reducible refine (chain_Blocks.calls k _ _ l0 m ok _ ?s1 ?s2 hb.out).mono ?_); (case s1 => exact Kd.C_below HR.out hW); (case s2 => exact HC.out); rintro e w1 ⟨v, rfl, ho, hb1⟩; have hB1 := Lib.hid (pw_cell_below hb1 hB0.out); have hB' := Lib.hid (World.block_lt_of_cell? w1 _ hB1.out); have ho := Lib.hid ho)
  | (go_at_call 86; (with_reducible refine (index86 a1 w.heap.size _ v m _ ho.out hB'.out hB1.out).mono ?_); rintro e w2 ⟨rfl, hb2⟩))
 go_ret2
 exact ⟨v, rfl, Kd.R_lower (Kd.R_below ho.out hb2) (by simp), below_step (below_step hW hb1) hb2⟩

end Go.Proofs.Ytglekonhdjploaa.XImageKeeps
