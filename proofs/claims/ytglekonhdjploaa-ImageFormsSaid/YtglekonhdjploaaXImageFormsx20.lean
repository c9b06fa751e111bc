-- printed by wip/xprint.py
import Derived.Test.YtglekonhdjploaaXImageFormsx0
import Derived.Test.YtglekonhdjploaaXImageFormsx2
import Derived.Test.YtglekonhdjploaaXImageFormsx15
import Derived.Test.YtglekonhdjploaaXImageFormsx16
import Derived.Test.YtglekonhdjploaaXImageFormsx19
namespace Go.Proofs.Ytglekonhdjploaa.XImageForms
open Go.RowKit Go.Proofs.YtglekonhdjploaaW.PrintWords Go.Proofs.YtglekonhdjploaaW.PrintLast Go.Proofs.YtglekonhdjploaaW.PrintMore
attribute [local go_sem] max2_int min2_int max_two min_two max_three min_three max_four min_four
set_option linter.unusedVariables false
set_option linter.unusedSimpArgs false

/-! ### darningref4_ImageAlloc: function 45 -/
def darningref4_ImageAlloc.f (k : Nat) (l0 : List Int) (a1 : Int) (l2 : List Int) : Option ((List (S30)) × Int × Int) := (darningref4_Need.f a1).bind fun t359 => (if t359 = 0 then (some (([] : List (S30)), 0, 1)) else ((darningref4_Blocks.f k l0).bind fun bt360 => (if bt360.2 = true then ((darningref4_Need.f a1).bind fun t364 => ((darningref4_Choose.f k bt360.1 t364 l2).bind fun t365 => (if t365 < 0 then (some (([] : List (S30)), 0, 4)) else ((darningref4_Need.f a1).bind fun t366 => ((darningref4_CarveEdits.f k bt360.1 t365 t366).bind fun t367 => (if 0 ≤ t365 then (if t365 < (bt360.1.length : Int) then ((darningref4_Off.f ((rd_T35 bt360.1 t365).f0) ((rd_T35 bt360.1 t365).f1) ((rd_T35 bt360.1 t365).f2)).bind fun t371 => (some (t367, t371, 0))) else (none)) else (none))))))) else (some (([] : List (S30)), 0, 6)))))
theorem darningref4_ImageAlloc.mono : ∀ a0 a1 a2 k, LeO (darningref4_ImageAlloc.f k a0 a1 a2) (darningref4_ImageAlloc.f (k + 1) a0 a1 a2) := by
 intro a0 a1 a2 k
 unfold darningref4_ImageAlloc.f
 repeat' first
   | (with_reducible exact darningref4_Blocks.mono _ _)
   | (with_reducible exact darningref4_CarveEdits.mono _ _ _ _)
   | (with_reducible exact darningref4_Choose.mono _ _ _ _)
   | (with_reducible exact LeO.refl _)
   | (with_reducible exact LeO.none _)
   | (with_reducible refine LeO.ite ?_ ?_)
   | (with_reducible refine LeO.bind ?_ (fun _ => ?_))
   | exact darningref4_Blocks.mono _ _
   | exact darningref4_CarveEdits.mono _ _ _ _
   | exact darningref4_Choose.mono _ _ _ _
   | exact LeO.none _
   | refine LeO.ite ?_ ?_
   | refine LeO.bind ?_ (fun _ => ?_)
def darningref4_ImageAlloc.T9 : Bool × List (List Nat × List Nat) := (true, [([], []), ([], []), ([], []), ([2], [2]), ([0, 1, 3, 3], [0, 1, 3]), ([], []), ([], []), ([5, 6], [5, 6]), ([7], [7]), ([8, 4], [8]), ([4, 9, 0, 1, 2, 3, 4], [4]), ([9, 10, 0, 1, 2, 3, 4, 5, 6, 7, 8, 9, 10], [9]), ([11, 0, 1, 2, 3, 4, 5, 6, 7, 8, 9, 10, 11], [])])
def darningref4_ImageAlloc.B9 : List Nat := [0, 0, 0, 4, 15, 0, 0, 96, 224, 511, 1023, 2047, 4095]
theorem darningref4_ImageAlloc.tab9 : rtab .any (opsOf Try.f45 9) = darningref4_ImageAlloc.T9 := by kernel_rfl
theorem darningref4_ImageAlloc.bits9 : waitsOk darningref4_ImageAlloc.T9.2 darningref4_ImageAlloc.B9 = true := by kernel_rfl
set_option maxHeartbeats 8000000 in
set_option maxRecDepth 100000 in
theorem darningref4_ImageAlloc.calls (k : Nat) (A0 : Option Addr) (c0 : Nat) (l0 : List Int) (a1 : Int) (A2 : Option Addr) (c2 : Nat) (l2 : List Int) (r1 : List (S30)) (r2 : Int) (r3 : Int) (w : World) (hr0 : Kd.C (Kd.int .u64) w A0 l0.length l0) (hc0 : l0.length ≤ c0) (hr2 : Kd.C (Kd.int .i64) w A2 l2.length l2) (hc2 : l2.length ≤ c2) (h : darningref4_ImageAlloc.f k l0 a1 l2 = some (r1, r2, r3)) :
  Calls Try.prog 45 #[.slice A0 l0.length c0, .int .i64 a1, .slice A2 l2.length c2] w fun e w' => ∃ v0_ : Value, e = .returned (.tuple #[v0_, .int .i64 r2, .int .i64 r3]) ∧ Kd.R k30 30 w' w.heap.size (fun _ => True) v0_ r1 ∧ Below w.heap.size w w' := by
 have hu35 := Try.underlying35
 have HR0 := Aside0.mk hr0
 have HC0 := Aside0.mk hc0
 clear hr0 hc0
 have HR2 := Aside0.mk hr2
 have HC2 := Aside0.mk hc2
 clear hr2 hc2
 have HB := Aside0.mk (Below.refl w.heap.size w)
 have H : ((darningref4_Need.f a1).bind fun t359 => (if t359 = 0 then (some (([] : List (S30)), 0, 1)) else ((darningref4_Blocks.f k l0).bind fun bt360 => (if bt360.2 = true then ((darningref4_Need.f a1).bind fun t364 => ((darningref4_Choose.f k bt360.1 t364 l2).bind fun t365 => (if t365 < 0 then (some (([] : List (S30)), 0, 4)) else ((darningref4_Need.f a1).bind fun t366 => ((darningref4_CarveEdits.f k bt360.1 t365 t366).bind fun t367 => (if 0 ≤ t365 then (if t365 < (bt360.1.length : Int) then ((darningref4_Off.f ((rd_T35 bt360.1 t365).f0) ((rd_T35 bt360.1 t365).f1) ((rd_T35 bt360.1 t365).f2)).bind fun t371 => (some (t367, t371, 0))) else (none)) else (none))))))) else (some (([] : List (S30)), 0, 6)))))) = some (r1, r2, r3) := h
 clear h
 replace H := Option.bind_eq_some_iff.mp H
 obtain ⟨t359, A40, H⟩ := H
 replace H : (if t359 = 0 then (some (([] : List (S30)), 0, 1)) else ((darningref4_Blocks.f k l0).bind fun bt360 => (if bt360.2 = true then ((darningref4_Need.f a1).bind fun t364 => ((darningref4_Choose.f k bt360.1 t364 l2).bind fun t365 => (if t365 < 0 then (some (([] : List (S30)), 0, 4)) else ((darningref4_Need.f a1).bind fun t366 => ((darningref4_CarveEdits.f k bt360.1 t365 t366).bind fun t367 => (if 0 ≤ t365 then (if t365 < (bt360.1.length : Int) then ((darningref4_Off.f ((rd_T35 bt360.1 t365).f0) ((rd_T35 bt360.1 t365).f1) ((rd_T35 bt360.1 t365).f2)).bind fun t371 => (some (t367, t371, 0))) else (none)) else (none))))))) else (some (([] : List (S30)), 0, 6))))) = some (r1, r2, r3) := H
 have A4 := Aside0.mk A40
 clear A40
 by_cases c5 : t359 = 0
 ·
  rw [if_pos c5] at H
  have c5b0 : (t359 == 0) = true := beq_iff_eq.mpr c5
  have c5b1 : (t359 != 0) = false := bne_eq_false_iff_eq.mpr c5
  clear c5
  simp only [Option.some.injEq, Prod.mk.injEq] at H
  obtain ⟨rfl, rfl, rfl⟩ := H
  go_enter Try.func45, Try.ntmps45
  go_wp2_with (first | ((with_reducible refine gate_callee (f := 41) rfl ?_); refine goesL_ (some 13) rfl rfl Try.func41 (by kernel_rfl) rfl #[.int .i64 a1] rfl (by (try simp only [qj, qk, ql]); first | done | rfl | (simp only [qm, qn]; rfl)) ?_; (with_reducible refine (darningref4_Need.calls a1 t359 _ A4.out).mono ?_); rintro e w' ⟨rfl, ⟨nd, rfl⟩⟩; refine ⟨_, rfl, ?_⟩))
  go_ret3
  exact ⟨_, by first | rfl | (simp [errW_none, errW_some] <;> rfl) | (simp [*, errW_none, errW_some] <;> rfl), by first | exact Kd.R_nil _ _ _ _ _ | exact Kd.N_nil _ _ _ _ _ | exact Kd.V_nil _ _ _ _ _ | exact Kd.Q_nil _ _ _ _ _ | exact Kd.S_nil _ _ _ _ _, zB HB⟩
 rw [if_neg c5] at H
 have c5b0 : (t359 == 0) = false := beq_eq_false_iff_ne.mpr c5
 have c5b1 : (t359 != 0) = true := bne_iff_ne.mpr c5
 replace H := Option.bind_eq_some_iff.mp H
 obtain ⟨⟨t360, t361⟩, A60, H⟩ := H
 replace H : (if t361 = true then ((darningref4_Need.f a1).bind fun t364 => ((darningref4_Choose.f k t360 t364 l2).bind fun t365 => (if t365 < 0 then (some (([] : List (S30)), 0, 4)) else ((darningref4_Need.f a1).bind fun t366 => ((darningref4_CarveEdits.f k t360 t365 t366).bind fun t367 => (if 0 ≤ t365 then (if t365 < (t360.length : Int) then ((darningref4_Off.f ((rd_T35 t360 t365).f0) ((rd_T35 t360 t365).f1) ((rd_T35 t360 t365).f2)).bind fun t371 => (some (t367, t371, 0))) else (none)) else (none))))))) else (some (([] : List (S30)), 0, 6))) = some (r1, r2, r3) := H
 have A6 := Aside0.mk A60
 clear A60
 by_cases c7 : t361 = true
 rotate_left
 ·
  replace c7 := Bool.eq_false_iff.mpr c7
  subst c7
  have H1 : (some (([] : List (S30)), 0, 6)) = some (r1, r2, r3) := by rw [if_neg (show ¬ (false = true) by decide)] at H; exact H
  clear H
  have H := H1
  clear H1
  simp only [Option.some.injEq, Prod.mk.injEq] at H
  obtain ⟨rfl, rfl, rfl⟩ := H
  go_enter Try.func45, Try.ntmps45
  go_wp2_with (first | ((with_reducible refine gate_callee (f := 41) rfl ?_); refine goesL_ (some 13) rfl rfl Try.func41 (by kernel_rfl) rfl #[.int .i64 a1] rfl (by (try simp only [qj, qk, ql]); first | done | rfl | (simp only [qm, qn]; rfl)) ?_; (with_reducible refine (darningref4_Need.calls a1 t359 _ A4.out).mono ?_); rintro e w' ⟨rfl, ⟨nd, rfl⟩⟩; refine ⟨_, rfl, ?_⟩) | ((with_reducible refine gate_callee (f := 52) rfl ?_); refine goesL_ (some 17) rfl rfl Try.func52 (by kernel_rfl) rfl #[.slice A0 l0.length c0] rfl (by (try simp only [qj, qk, ql]); first | done | rfl | (simp only [qm, qn]; rfl)) ?_; (with_reducible refine (darningref4_Blocks.calls k _ _ l0 t360 false _ ?side1 ?side2 A6.out).mono ?_); (case side1 => exact zc HR0.out); (case side2 => exact HC0.out); rintro e w25 ⟨v362, rfl, ho0, hb⟩; refine ⟨_, rfl, ?_⟩; have n0_ := Aside0.mk (Kd.R_lower ho0 (below_size (zB HB))); have n1_ := zb HB hb; clear HB; have HO363 := n0_; have HB := n1_; clear n0_ n1_; (try clear hb); (try clear ho0)))
  go_ret3
  exact ⟨_, by first | rfl | (simp [errW_none, errW_some] <;> rfl) | (simp [*, errW_none, errW_some] <;> rfl), by first | exact Kd.R_nil _ _ _ _ _ | exact Kd.N_nil _ _ _ _ _ | exact Kd.V_nil _ _ _ _ _ | exact Kd.Q_nil _ _ _ _ _ | exact Kd.S_nil _ _ _ _ _, zB HB⟩
 subst c7
 have H1 : ((darningref4_Need.f a1).bind fun t364 => ((darningref4_Choose.f k t360 t364 l2).bind fun t365 => (if t365 < 0 then (some (([] : List (S30)), 0, 4)) else ((darningref4_Need.f a1).bind fun t366 => ((darningref4_CarveEdits.f k t360 t365 t366).bind fun t367 => (if 0 ≤ t365 then (if t365 < (t360.length : Int) then ((darningref4_Off.f ((rd_T35 t360 t365).f0) ((rd_T35 t360 t365).f1) ((rd_T35 t360 t365).f2)).bind fun t371 => (some (t367, t371, 0))) else (none)) else (none))))))) = some (r1, r2, r3) := by rw [if_pos rfl] at H; exact H
 clear H
 have H := H1
 clear H1
 replace H := Option.bind_eq_some_iff.mp H
 obtain ⟨t364, A80, H⟩ := H
 replace H : ((darningref4_Choose.f k t360 t364 l2).bind fun t365 => (if t365 < 0 then (some (([] : List (S30)), 0, 4)) else ((darningref4_Need.f a1).bind fun t366 => ((darningref4_CarveEdits.f k t360 t365 t366).bind fun t367 => (if 0 ≤ t365 then (if t365 < (t360.length : Int) then ((darningref4_Off.f ((rd_T35 t360 t365).f0) ((rd_T35 t360 t365).f1) ((rd_T35 t360 t365).f2)).bind fun t371 => (some (t367, t371, 0))) else (none)) else (none)))))) = some (r1, r2, r3) := H
 have A8 := Aside0.mk A80
 clear A80
 replace H := Option.bind_eq_some_iff.mp H
 obtain ⟨t365, A90, H⟩ := H
 replace H : (if t365 < 0 then (some (([] : List (S30)), 0, 4)) else ((darningref4_Need.f a1).bind fun t366 => ((darningref4_CarveEdits.f k t360 t365 t366).bind fun t367 => (if 0 ≤ t365 then (if t365 < (t360.length : Int) then ((darningref4_Off.f ((rd_T35 t360 t365).f0) ((rd_T35 t360 t365).f1) ((rd_T35 t360 t365).f2)).bind fun t371 => (some (t367, t371, 0))) else (none)) else (none))))) = some (r1, r2, r3) := H
 have A9 := Aside0.mk A90
 clear A90
 by_cases c10 : t365 < 0
 ·
  rw [if_pos c10] at H
  have c10b0 : decide (t365 < 0) = true := decide_eq_true c10
  clear c10
  simp only [Option.some.injEq, Prod.mk.injEq] at H
  obtain ⟨rfl, rfl, rfl⟩ := H
  go_enter Try.func45, Try.ntmps45
  go_wp2_with (first | ((with_reducible refine gate_callee (f := 41) rfl ?_); refine goesL_ (some 13) rfl rfl Try.func41 (by kernel_rfl) rfl #[.int .i64 a1] rfl (by (try simp only [qj, qk, ql]); first | done | rfl | (simp only [qm, qn]; rfl)) ?_; (with_reducible refine (darningref4_Need.calls a1 t359 _ A4.out).mono ?_); rintro e w' ⟨rfl, ⟨nd, rfl⟩⟩; refine ⟨_, rfl, ?_⟩) | ((with_reducible refine gate_callee (f := 52) rfl ?_); refine goesL_ (some 17) rfl rfl Try.func52 (by kernel_rfl) rfl #[.slice A0 l0.length c0] rfl (by (try simp only [qj, qk, ql]); first | done | rfl | (simp only [qm, qn]; rfl)) ?_; (with_reducible refine (darningref4_Blocks.calls k _ _ l0 t360 true _ ?side1 ?side2 A6.out).mono ?_); (case side1 => exact zc HR0.out); (case side2 => exact HC0.out); rintro e w11 ⟨v362, rfl, ho0, hb⟩; refine ⟨_, rfl, ?_⟩; have n0_ := Aside0.mk (Kd.R_lower ho0 (below_size (zB HB))); have n1_ := zb HB hb; clear HB; have HO363 := n0_; have HB := n1_; clear n0_ n1_; (try clear hb); (try clear ho0)) | ((with_reducible refine gate_callee (f := 41) rfl ?_); refine goesL_ (some 24) rfl rfl Try.func41 (by kernel_rfl) rfl #[.int .i64 a1] rfl (by (try simp only [qj, qk, ql]); first | done | rfl | (simp only [qm, qn]; rfl)) ?_; (with_reducible refine (darningref4_Need.calls a1 t364 _ A8.out).mono ?_); rintro e w' ⟨rfl, ⟨nd, rfl⟩⟩; refine ⟨_, rfl, ?_⟩; obtain ⟨Ao12, co12, eo12⟩ := Kd.R_slice HO363.out; subst eo12) | ((with_reducible refine gate_callee (f := 74) rfl ?_); refine goesL_ (some 26) rfl rfl Try.func74 (by kernel_rfl) rfl #[.slice Ao12 t360.length co12, .int .i64 t364, .slice A2 l2.length c2] rfl (by (try simp only [qj, qk, ql]); first | done | rfl | (simp only [qm, qn]; rfl)) ?_; (with_reducible refine (darningref4_Choose.calls k _ _ t360 t364 _ _ l2 t365 _ ?side1 ?side2 ?side3 ?side4 A9.out).mono ?_); (case side1 => exact zc (Kd.R_reads' HO363.out).2.2); (case side2 => exact (Kd.R_reads' HO363.out).2.1); (case side3 => exact zc (Kd.C_below HR2.out (zB HB))); (case side4 => exact HC2.out); rintro e w13 ⟨rfl, hb⟩; refine ⟨_, rfl, ?_⟩; have n0_ := za HO363 hb; have n1_ := zb HB hb; replace HO363 := n0_; replace HB := n1_; clear n0_ n1_; (try clear hb)))
  go_ret3
  exact ⟨_, by first | rfl | (simp [errW_none, errW_some] <;> rfl) | (simp [*, errW_none, errW_some] <;> rfl), by first | exact Kd.R_nil _ _ _ _ _ | exact Kd.N_nil _ _ _ _ _ | exact Kd.V_nil _ _ _ _ _ | exact Kd.Q_nil _ _ _ _ _ | exact Kd.S_nil _ _ _ _ _, zB HB⟩
 rw [if_neg c10] at H
 have c10b0 : decide (t365 < 0) = false := decide_eq_false c10
 clear c10
 replace H := Option.bind_eq_some_iff.mp H
 obtain ⟨t366, A140, H⟩ := H
 replace H : ((darningref4_CarveEdits.f k t360 t365 t366).bind fun t367 => (if 0 ≤ t365 then (if t365 < (t360.length : Int) then ((darningref4_Off.f ((rd_T35 t360 t365).f0) ((rd_T35 t360 t365).f1) ((rd_T35 t360 t365).f2)).bind fun t371 => (some (t367, t371, 0))) else (none)) else (none))) = some (r1, r2, r3) := H
 have A14 := Aside0.mk A140
 clear A140
 replace H := Option.bind_eq_some_iff.mp H
 obtain ⟨t367, A150, H⟩ := H
 replace H : (if 0 ≤ t365 then (if t365 < (t360.length : Int) then ((darningref4_Off.f ((rd_T35 t360 t365).f0) ((rd_T35 t360 t365).f1) ((rd_T35 t360 t365).f2)).bind fun t371 => (some (t367, t371, 0))) else (none)) else (none)) = some (r1, r2, r3) := H
 have A15 := Aside0.mk A150
 clear A150
 by_cases c16 : 0 ≤ t365
 rotate_left
 ·
  rw [if_neg c16] at H
  exact absurd H (by simp)
 rw [if_pos c16] at H
 have c16b0 : decide (0 ≤ t365) = true := decide_eq_true c16
 clear c16
 by_cases c17 : t365 < (t360.length : Int)
 rotate_left
 ·
  rw [if_neg c17] at H
  exact absurd H (by simp)
 rw [if_pos c17] at H
 have c17b0 : decide (t365 < (t360.length : Int)) = true := decide_eq_true c17
 clear c17
 replace H := Option.bind_eq_some_iff.mp H
 obtain ⟨t371, A180, H⟩ := H
 replace H : (some (t367, t371, 0)) = some (r1, r2, r3) := H
 have A18 := Aside0.mk A180
 clear A180
 simp only [Option.some.injEq, Prod.mk.injEq] at H
 obtain ⟨rfl, rfl, rfl⟩ := H
 go_enter Try.func45, Try.ntmps45
 try go_wp2_with (first | ((with_reducible refine gate_callee (f := 41) rfl ?_); refine goesL_ (some 13) rfl rfl Try.func41 (by kernel_rfl) rfl #[.int .i64 a1] rfl (by (try simp only [qj, qk, ql]); first | done | rfl | (simp only [qm, qn]; rfl)) ?_; (with_reducible refine (darningref4_Need.calls a1 t359 _ A4.out).mono ?_); rintro e w' ⟨rfl, ⟨nd, rfl⟩⟩; refine ⟨_, rfl, ?_⟩) | ((with_reducible refine gate_callee (f := 52) rfl ?_); refine goesL_ (some 17) rfl rfl Try.func52 (by kernel_rfl) rfl #[.slice A0 l0.length c0] rfl (by (try simp only [qj, qk, ql]); first | done | rfl | (simp only [qm, qn]; rfl)) ?_; (with_reducible refine (darningref4_Blocks.calls k _ _ l0 t360 true _ ?side1 ?side2 A6.out).mono ?_); (case side1 => exact zc HR0.out); (case side2 => exact HC0.out); rintro e w19 ⟨v362, rfl, ho0, hb⟩; refine ⟨_, rfl, ?_⟩; have n0_ := Aside0.mk (Kd.R_lower ho0 (below_size (zB HB))); have n1_ := zb HB hb; clear HB; have HO363 := n0_; have HB := n1_; clear n0_ n1_; (try clear hb); (try clear ho0)) | ((with_reducible refine gate_callee (f := 41) rfl ?_); refine goesL_ (some 24) rfl rfl Try.func41 (by kernel_rfl) rfl #[.int .i64 a1] rfl (by (try simp only [qj, qk, ql]); first | done | rfl | (simp only [qm, qn]; rfl)) ?_; (with_reducible refine (darningref4_Need.calls a1 t364 _ A8.out).mono ?_); rintro e w' ⟨rfl, ⟨nd, rfl⟩⟩; refine ⟨_, rfl, ?_⟩; obtain ⟨Ao20, co20, eo20⟩ := Kd.R_slice HO363.out; subst eo20) | ((with_reducible refine gate_callee (f := 74) rfl ?_); refine goesL_ (some 26) rfl rfl Try.func74 (by kernel_rfl) rfl #[.slice Ao20 t360.length co20, .int .i64 t364, .slice A2 l2.length c2] rfl (by (try simp only [qj, qk, ql]); first | done | rfl | (simp only [qm, qn]; rfl)) ?_; (with_reducible refine (darningref4_Choose.calls k _ _ t360 t364 _ _ l2 t365 _ ?side1 ?side2 ?side3 ?side4 A9.out).mono ?_); (case side1 => exact zc (Kd.R_reads' HO363.out).2.2); (case side2 => exact (Kd.R_reads' HO363.out).2.1); (case side3 => exact zc (Kd.C_below HR2.out (zB HB))); (case side4 => exact HC2.out); rintro e w21 ⟨rfl, hb⟩; refine ⟨_, rfl, ?_⟩; have n0_ := za HO363 hb; have n1_ := zb HB hb; replace HO363 := n0_; replace HB := n1_; clear n0_ n1_; (try clear hb)))
 have n0_ := Aside0.mk (qc HO363.out)
 have n1_ := Aside0.mk (qf HB.out)
 clear HO363
 clear HB
 have HO363 := n0_
 have HB := n1_
 clear n0_ n1_
 have p370 : 0 ≤ (t365 : Int) := zu
 have q370 : t365 < (t360.length : Int) := zu
 obtain ⟨ad370, e370, hx370_0, hx370_1, hx370_2⟩ := at_T35 (Kd.R_reads' HO363.out).2.2 t365 p370 q370
 cases e370
 replace p370 := eq_true p370
 replace q370 := eq_true q370
 refine start_ (n := 13) (S := fun w' => w'.cell? (ad370.add ((t365).toNat * 3)) = some (.int .i64 ((rd_T35 t360 t365).f0)) ∧ w'.cell? ⟨(ad370.add ((t365).toNat * 3)).block, (ad370.add ((t365).toNat * 3)).off + 1, none⟩ = some (.int .i64 ((rd_T35 t360 t365).f1)) ∧ w'.cell? ⟨(ad370.add ((t365).toNat * 3)).block, (ad370.add ((t365).toNat * 3)).off + 2, none⟩ = some (.bool ((rd_T35 t360 t365).f2))) (ds := []) (onA 13 0) (by kernel_rfl) rfl rfl ⟨hx370_0, hx370_1, hx370_2⟩ (fun hHeld => ?_); refine with_tabW darningref4_ImageAlloc.tab9 darningref4_ImageAlloc.bits9 (fun HT_ HW_ => ?_)
 generalize w21.drew = w22 at HO363 HB hx370_0 hx370_1 hx370_2 hHeld ⊢
 refine pu 0 (some 29) (onA 13 1) HT_ (h := ?_)
 refine pu 1 (some 30) (onA 13 2) HT_ (h := ?_)
 refine pu 2 (some 31) (onA 13 3) HT_ (h := ?_)
 refine pu 5 (some 34) #[tt_,tt_,tt_,ff_,ff_,tt_,ff_,ff_,ff_,ff_,ff_,ff_,ff_] HT_ (h := ?_)
 refine pu 6 (some 35) #[tt_,tt_,tt_,ff_,ff_,tt_,tt_,ff_,ff_,ff_,ff_,ff_,ff_] HT_ (h := ?_)
 refine pu 7 (some 36) #[tt_,tt_,tt_,ff_,ff_,tt_,tt_,tt_,ff_,ff_,ff_,ff_,ff_] HT_ (h := ?_)
 refine take_ (i := 8) (N := some 37) (v := ?_) (a' := ?_) #[tt_,tt_,tt_,ff_,ff_,tt_,tt_,tt_,tt_,ff_,ff_,ff_,ff_] rfl rfl (take_ofW HT_.out HW_.out (by kernel_rfl)) (fun _ _ _ h => h) (Or.inl ⟨by rfl, ?_⟩) hHeld ?_ ?_
 rotate_left
 ·
  rintro w' ⟨s0, s1, s2⟩
  go_simp
  with_reducible rfl
 rotate_left
 ·
  simp only [Act.put, qg, qh, qi, i64_w, i32_w]
  rfl
 refine one_ (i := 3) (N := some 32) #[tt_,tt_,tt_,tt_,ff_,tt_,tt_,tt_,tt_,ff_,ff_,ff_,ff_] rfl rfl (one_of HT_.out (by kernel_rfl)) (by decide) (fun K hK => ?_)
 refine goes_ Try.func41 (by kernel_rfl) rfl #[.int .i64 a1] (by rfl) rfl rfl (by (try simp only [qj, qk, ql]); first | done | rfl | (simp only [qm, qn]; rfl)) ?_
 with_reducible refine (darningref4_Need.calls a1 t366 _ A14.out).mono ?_
 rintro e w' ⟨rfl, ⟨nd, rfl⟩⟩
 refine ⟨_, rfl, ?_⟩
 refine hK.out _ _ ⟨hHeld.1, hHeld.2.1, hHeld.2.2⟩ (fun hHeld => ?_)
 clear hK K
 refine norm_ (a' := ?_) ?_ ?_
 rotate_left
 ·
  show Act.put _ (some 32) _ = _
  simp only [Act.put, qg, qh, qi, i64_w, i32_w]
  rfl
 refine one_ (i := 4) (N := some 33) (onA 13 9) rfl rfl (one_of HT_.out (by kernel_rfl)) (by decide) (fun K hK => ?_)
 refine goes_ Try.func27 (by kernel_rfl) rfl #[.slice (some ad370) t360.length co20, .int .i64 t365, .int .i64 t366] (by rfl) rfl rfl (by (try simp only [qj, qk, ql]); first | done | rfl | (simp only [qm, qn]; rfl)) ?_
 with_reducible refine (darningref4_CarveEdits.calls k _ _ t360 t365 t366 t367 _ ?side1 ?side2 A15.out).mono ?_
 (case side1 => exact zc (Kd.R_reads' HO363.out).2.2)
 (case side2 => exact (Kd.R_reads' HO363.out).2.1)
 rintro e w23 ⟨v368, rfl, ho0, hb⟩
 have HS0_ := (hb.cell (qp _ _ (hHeld.1))).trans (hHeld.1)
 have HS1_ := (hb.cell (qp _ _ (hHeld.2.1))).trans (hHeld.2.1)
 have HS2_ := (hb.cell (qp _ _ (hHeld.2.2))).trans (hHeld.2.2)
 refine ⟨_, rfl, ?_⟩
 have n0_ := za HO363 hb
 have n1_ := Aside0.mk (Kd.R_lower ho0 (below_size (zB HB)))
 have n2_ := zb HB hb
 clear HO363
 clear HB
 have HO363 := n0_
 have HO369 := n1_
 have HB := n2_
 clear n0_ n1_ n2_
 (try clear hb)
 (try clear hb2)
 (try clear hk)
 (try clear hi)
 (try clear ho0)
 refine hK.out _ _ ⟨HS0_, HS1_, HS2_⟩ (fun hHeld => ?_)
 clear hK K
 refine norm_ (a' := ?_) ?_ ?_
 rotate_left
 ·
  show Act.put _ (some 33) _ = _
  simp only [Act.put, qg, qh, qi, i64_w, i32_w]
  rfl
 refine one_ (i := 9) (N := some 38) (onA 13 10) rfl rfl (one_of HT_.out (by kernel_rfl)) (by decide) (fun K hK => ?_)
 refine goes_ Try.func29 (by kernel_rfl) rfl #[.agg #[.int .i64 ((rd_T35 t360 t365).f0), .int .i64 ((rd_T35 t360 t365).f1), .bool ((rd_T35 t360 t365).f2)]] (by rfl) rfl rfl (by (try simp only [qj, qk, ql]); first | done | rfl | (simp only [qm, qn]; rfl)) ?_
 with_reducible refine (darningref4_Off.calls ((rd_T35 t360 t365).f0) ((rd_T35 t360 t365).f1) ((rd_T35 t360 t365).f2) t371 _ A18.out).mono ?_
 rintro e w24 ⟨rfl, hb⟩
 have HS0_ := (hb.cell (qp _ _ (hHeld.1))).trans (hHeld.1)
 have HS1_ := (hb.cell (qp _ _ (hHeld.2.1))).trans (hHeld.2.1)
 have HS2_ := (hb.cell (qp _ _ (hHeld.2.2))).trans (hHeld.2.2)
 refine ⟨_, rfl, ?_⟩
 have n0_ := za HO363 hb
 have n1_ := za HO369 hb
 have n2_ := zb HB hb
 clear HO363
 clear HO369
 clear HB
 have HO363 := n0_
 have HO369 := n1_
 have HB := n2_
 clear n0_ n1_ n2_
 (try clear hb)
 (try clear hb2)
 (try clear hk)
 (try clear hi)
 refine hK.out _ _ ⟨HS0_, HS1_, HS2_⟩ (fun hHeld => ?_)
 clear hK K
 refine norm_ (a' := ?_) ?_ ?_
 rotate_left
 ·
  show Act.put _ (some 38) _ = _
  simp only [Act.put, qg, qh, qi, i64_w, i32_w]
  rfl
 refine pu 10 (some 6) (onA 13 11) HT_ (h := ?_)
 refine pu 11 (some 7) (onA 13 12) HT_ (h := ?_)
 refine pu 12 (some 8) (onA 13 13) HT_ (h := ?_)
 refine done_ (done_of HT_.out (by kernel_rfl)) ?_
 try go_wp2
 go_ret3
 exact ⟨_, by first | rfl | (simp [errW_none, errW_some] <;> rfl) | (simp [*, errW_none, errW_some] <;> rfl), by (with_reducible repeat (first | apply qa | apply qb | apply qc)); exact HO369.out, zB HB⟩

/-! ### merge_words: function 58 -/
def merge_words.l0 : Nat → Int → List (S35) → Int → Int → Option (Int)
 | 0, _, _, _, _ => none
 | k + 1, x3, x6, x7, x8 => if x8 < x7 then (if 0 ≤ x8 then (if x8 < (x6.length : Int) then ((block_May.f ((rd_T35 x6 x8).f1)).bind fun t374 => (if t374 = true then (if x3 > 512 then (some 0) else (merge_words.l0 k (wrap64 (x3 + ((rd_T35 x6 x8).f1))) x6 x7 (wrap64 (x8 + 1)))) else (some 0))) else (none)) else (none)) else (some x3)
def merge_words.f (k : Nat) (l0 : List (S35)) : Option (Int) := merge_words.l0 k 0 l0 (l0.length : Int) 0
theorem merge_words.mono_l : ∀ k, (∀ y0 y1 y2 y3, LeO (merge_words.l0 k y0 y1 y2 y3) (merge_words.l0 (k + 1) y0 y1 y2 y3))
 | 0 => fun _ _ _ _ r h => by simp [merge_words.l0] at h
 | k + 1 => by
  have ih0 := merge_words.mono_l k
  ·
   intro y0 y1 y2 y3
   unfold merge_words.l0
   repeat' first
   | (with_reducible exact ih0 _ _ _ _)
   | (with_reducible exact LeO.refl _)
   | (with_reducible exact LeO.none _)
   | (with_reducible refine LeO.ite ?_ ?_)
   | (with_reducible refine LeO.bind ?_ (fun _ => ?_))
   | exact ih0 _ _ _ _
   | exact LeO.none _
   | refine LeO.ite ?_ ?_
   | refine LeO.bind ?_ (fun _ => ?_)
theorem merge_words.mono : ∀ a0 k, LeO (merge_words.f k a0) (merge_words.f (k + 1) a0) := by
 intro a0 k
 have ih0 := merge_words.mono_l k
 unfold merge_words.f
 repeat' first
   | (with_reducible exact ih0 _ _ _ _)
   | (with_reducible exact LeO.refl _)
   | (with_reducible exact LeO.none _)
   | (with_reducible refine LeO.ite ?_ ?_)
   | (with_reducible refine LeO.bind ?_ (fun _ => ?_))
   | exact ih0 _ _ _ _
   | exact LeO.none _
   | refine LeO.ite ?_ ?_
   | refine LeO.bind ?_ (fun _ => ?_)
set_option maxHeartbeats 8000000 in
set_option maxRecDepth 100000 in
theorem merge_words.calls (k : Nat) (A0 : Option Addr) (c0 : Nat) (l0 : List (S35)) (r : Int) (w : World) (hr0 : Kd.C k35 w A0 l0.length l0) (hc0 : l0.length ≤ c0) (h : merge_words.f k l0 = some r) :
  Calls Try.prog 58 #[.slice A0 l0.length c0] w fun e w' => e = .returned (.int .i64 r) ∧ Below w.heap.size w w' := by
 have hu35 := Try.underlying35
 have HR0 := Aside0.mk hr0
 have HC0 := Aside0.mk hc0
 clear hr0 hc0
 have HB := Aside0.mk (Below.refl w.heap.size w)
 have H : (merge_words.l0 k 0 l0 (l0.length : Int) 0) = some r := h
 clear h
 have H' := Aside0.mk H
 clear H
 go_enter Try.func58, Try.ntmps58
 go_wp2
 go_loopg [3, 8] k (fun kq v3 v8 w' => ∃ (x3_1 : Int) (x8_1 : Int), v3 = .int .i64 x3_1 ∧ v8 = .int .i64 x8_1 ∧ Aside0 (merge_words.l0 kq x3_1 l0 (l0.length : Int) x8_1 = some r) ∧ Aside0 (kq ≤ k) ∧ Aside0 (Below w.heap.size w w'))
 case atStart => exact ⟨(0), (0), (by first | rfl | (simp; done) | (simp [*]; done)), (by first | rfl | (simp; done) | (simp [*]; done)), H', ⟨Nat.le_refl _⟩, ⟨zB HB⟩⟩
 case round =>
  clear H'
  obtain ⟨x3_1, x8_1, rfl, rfl, HA, HK1, HB⟩ := hrel
  cases gk with
  | zero => exact absurd HA.out (by simp [merge_words.l0])
  | succ k1 =>
   have H := HA.out
   clear HA
   simp only [merge_words.l0] at H
   by_cases c2 : x8_1 < (l0.length : Int)
   rotate_left
   ·
    rw [if_neg c2] at H
    have c2b0 : decide (x8_1 < (l0.length : Int)) = false := decide_eq_false c2
    clear c2
    obtain rfl := Option.some.inj H
    go_wp2
    go_ret
    exact ⟨by first | rfl | (simp [errW_none, errW_some] <;> rfl) | (simp [*, errW_none, errW_some] <;> rfl), zB HB⟩
   rw [if_pos c2] at H
   have c2b0 : decide (x8_1 < (l0.length : Int)) = true := decide_eq_true c2
   clear c2
   by_cases c3 : 0 ≤ x8_1
   rotate_left
   ·
    rw [if_neg c3] at H
    exact absurd H (by simp)
   rw [if_pos c3] at H
   have c3b0 : decide (0 ≤ x8_1) = true := decide_eq_true c3
   clear c3
   by_cases c4 : x8_1 < (l0.length : Int)
   rotate_left
   ·
    rw [if_neg c4] at H
    exact absurd H (by simp)
   rw [if_pos c4] at H
   have c4b0 : decide (x8_1 < (l0.length : Int)) = true := decide_eq_true c4
   clear c4
   replace H := Option.bind_eq_some_iff.mp H
   obtain ⟨t374, A50, H⟩ := H
   replace H : (if t374 = true then (if x3_1 > 512 then (some 0) else (merge_words.l0 k1 (wrap64 (x3_1 + ((rd_T35 l0 x8_1).f1))) l0 (l0.length : Int) (wrap64 (x8_1 + 1)))) else (some 0)) = some r := H
   have A5 := Aside0.mk A50
   clear A50
   by_cases c6 : t374 = true
   rotate_left
   ·
    replace c6 := Bool.eq_false_iff.mpr c6
    subst c6
    have H1 : (some 0) = some r := by rw [if_neg (show ¬ (false = true) by decide)] at H; exact H
    clear H
    have H := H1
    clear H1
    obtain rfl := Option.some.inj H
    have p372 : 0 ≤ (x8_1 : Int) := zu
    have q372 : x8_1 < (l0.length : Int) := zu
    obtain ⟨ad372, e372, hx372_0, hx372_1, hx372_2⟩ := at_T35 HR0.out x8_1 p372 q372
    cases e372
    replace hx372_0 := zw HB hx372_0
    replace hx372_1 := zw HB hx372_1
    replace hx372_2 := zw HB hx372_2
    replace p372 := eq_true p372
    replace q372 := eq_true q372
    go_wp2_with (first | ((with_reducible refine gate_dst (N := 5) rfl ?_); refine box_event ?hg (N := 5) ?hd (cs := #[.int .i64 0, .int .i64 0, .bool false]) (t := 35) ?hr ?_; (case hd => rfl); (case hg => rfl); (case hr => first | (go_simp; done) | (go_simp; rfl)); intro gb373 hg w12 hbox hb; have n0_ := zb HB hb; have n1_ := Aside0.mk (hbox); have n2_ := Aside0.mk ((by rw [hg]; exact (below_size (zB HB)) : w.heap.size ≤ gb373)); have n3_ := Aside0.mk ((by rw [hg]; exact (below_size (zB HB)) : w.heap.size ≤ gb373)); clear HB; have HB := n0_; have BK373 := n1_; have GW373 := n2_; have GE373 := n3_; clear n0_ n1_ n2_ n3_; clear hb hbox hg; have hcz13_0 : w12.cell? ⟨gb373, 0, none⟩ = some (.int .i64 0) := (blk_cell BK373.out 0).trans rfl; have hcz13_1 : w12.cell? ⟨gb373, 1, none⟩ = some (.int .i64 0) := (blk_cell BK373.out 1).trans rfl; have hcz13_2 : w12.cell? ⟨gb373, 2, none⟩ = some (.bool false) := (blk_cell BK373.out 2).trans rfl; have hfz13_0 := blk_frozen BK373.out 0; have hfz13_1 := blk_frozen BK373.out 1; have hfz13_2 := blk_frozen BK373.out 2) | ((with_reducible refine gate_callee (f := 68) rfl ?_); refine goesL_ (some 14) rfl rfl Try.func68 (by kernel_rfl) rfl #[.int .i64 ((rd_T35 l0 x8_1).f1)] rfl (by (try simp only [qj, qk, ql]); first | done | rfl | (simp only [qm, qn]; rfl)) ?_; (with_reducible refine (block_May.calls ((rd_T35 l0 x8_1).f1) false _ A5.out).mono ?_); rintro e w' ⟨rfl, ⟨nd, rfl⟩⟩; refine ⟨_, rfl, ?_⟩))
    go_ret
    exact ⟨by first | rfl | (simp [errW_none, errW_some] <;> rfl) | (simp [*, errW_none, errW_some] <;> rfl), by repeat (first | (with_reducible first | exact HB.out | apply qd | apply qe | apply qf | refine below_set ?_ GE373.out) | exact HB.out)⟩
   subst c6
   have H1 : (if x3_1 > 512 then (some 0) else (merge_words.l0 k1 (wrap64 (x3_1 + ((rd_T35 l0 x8_1).f1))) l0 (l0.length : Int) (wrap64 (x8_1 + 1)))) = some r := by rw [if_pos rfl] at H; exact H
   clear H
   have H := H1
   clear H1
   by_cases c7 : x3_1 > 512
   ·
    rw [if_pos c7] at H
    have c7b0 : decide (512 < x3_1) = true := decide_eq_true c7
    clear c7
    obtain rfl := Option.some.inj H
    have p372 : 0 ≤ (x8_1 : Int) := zu
    have q372 : x8_1 < (l0.length : Int) := zu
    obtain ⟨ad372, e372, hx372_0, hx372_1, hx372_2⟩ := at_T35 HR0.out x8_1 p372 q372
    cases e372
    replace hx372_0 := zw HB hx372_0
    replace hx372_1 := zw HB hx372_1
    replace hx372_2 := zw HB hx372_2
    replace p372 := eq_true p372
    replace q372 := eq_true q372
    go_wp2_with (first | ((with_reducible refine gate_dst (N := 5) rfl ?_); refine box_event ?hg (N := 5) ?hd (cs := #[.int .i64 0, .int .i64 0, .bool false]) (t := 35) ?hr ?_; (case hd => rfl); (case hg => rfl); (case hr => first | (go_simp; done) | (go_simp; rfl)); intro gb373 hg w8 hbox hb; have n0_ := zb HB hb; have n1_ := Aside0.mk (hbox); have n2_ := Aside0.mk ((by rw [hg]; exact (below_size (zB HB)) : w.heap.size ≤ gb373)); have n3_ := Aside0.mk ((by rw [hg]; exact (below_size (zB HB)) : w.heap.size ≤ gb373)); clear HB; have HB := n0_; have BK373 := n1_; have GW373 := n2_; have GE373 := n3_; clear n0_ n1_ n2_ n3_; clear hb hbox hg; have hcz9_0 : w8.cell? ⟨gb373, 0, none⟩ = some (.int .i64 0) := (blk_cell BK373.out 0).trans rfl; have hcz9_1 : w8.cell? ⟨gb373, 1, none⟩ = some (.int .i64 0) := (blk_cell BK373.out 1).trans rfl; have hcz9_2 : w8.cell? ⟨gb373, 2, none⟩ = some (.bool false) := (blk_cell BK373.out 2).trans rfl; have hfz9_0 := blk_frozen BK373.out 0; have hfz9_1 := blk_frozen BK373.out 1; have hfz9_2 := blk_frozen BK373.out 2) | ((with_reducible refine gate_callee (f := 68) rfl ?_); refine goesL_ (some 14) rfl rfl Try.func68 (by kernel_rfl) rfl #[.int .i64 ((rd_T35 l0 x8_1).f1)] rfl (by (try simp only [qj, qk, ql]); first | done | rfl | (simp only [qm, qn]; rfl)) ?_; (with_reducible refine (block_May.calls ((rd_T35 l0 x8_1).f1) true _ A5.out).mono ?_); rintro e w' ⟨rfl, ⟨nd, rfl⟩⟩; refine ⟨_, rfl, ?_⟩))
    go_ret
    exact ⟨by first | rfl | (simp [errW_none, errW_some] <;> rfl) | (simp [*, errW_none, errW_some] <;> rfl), by repeat (first | (with_reducible first | exact HB.out | apply qd | apply qe | apply qf | refine below_set ?_ GE373.out) | exact HB.out)⟩
   rw [if_neg c7] at H
   have c7b0 : decide (512 < x3_1) = false := decide_eq_false c7
   clear c7
   have H' := Aside0.mk H
   clear H
   have p372 : 0 ≤ (x8_1 : Int) := zu
   have q372 : x8_1 < (l0.length : Int) := zu
   obtain ⟨ad372, e372, hx372_0, hx372_1, hx372_2⟩ := at_T35 HR0.out x8_1 p372 q372
   cases e372
   replace hx372_0 := zw HB hx372_0
   replace hx372_1 := zw HB hx372_1
   replace hx372_2 := zw HB hx372_2
   replace p372 := eq_true p372
   replace q372 := eq_true q372
   go_wp2_with (first | ((with_reducible refine gate_dst (N := 5) rfl ?_); refine box_event ?hg (N := 5) ?hd (cs := #[.int .i64 0, .int .i64 0, .bool false]) (t := 35) ?hr ?_; (case hd => rfl); (case hg => rfl); (case hr => first | (go_simp; done) | (go_simp; rfl)); intro gb373 hg w10 hbox hb; have n0_ := zb HB hb; have n1_ := Aside0.mk (hbox); have n2_ := Aside0.mk ((by rw [hg]; exact (below_size (zB HB)) : w.heap.size ≤ gb373)); have n3_ := Aside0.mk ((by rw [hg]; exact (below_size (zB HB)) : w.heap.size ≤ gb373)); clear HB; have HB := n0_; have BK373 := n1_; have GW373 := n2_; have GE373 := n3_; clear n0_ n1_ n2_ n3_; clear hb hbox hg; have hcz11_0 : w10.cell? ⟨gb373, 0, none⟩ = some (.int .i64 0) := (blk_cell BK373.out 0).trans rfl; have hcz11_1 : w10.cell? ⟨gb373, 1, none⟩ = some (.int .i64 0) := (blk_cell BK373.out 1).trans rfl; have hcz11_2 : w10.cell? ⟨gb373, 2, none⟩ = some (.bool false) := (blk_cell BK373.out 2).trans rfl; have hfz11_0 := blk_frozen BK373.out 0; have hfz11_1 := blk_frozen BK373.out 1; have hfz11_2 := blk_frozen BK373.out 2) | ((with_reducible refine gate_callee (f := 68) rfl ?_); refine goesL_ (some 14) rfl rfl Try.func68 (by kernel_rfl) rfl #[.int .i64 ((rd_T35 l0 x8_1).f1)] rfl (by (try simp only [qj, qk, ql]); first | done | rfl | (simp only [qm, qn]; rfl)) ?_; (with_reducible refine (block_May.calls ((rd_T35 l0 x8_1).f1) true _ A5.out).mono ?_); rintro e w' ⟨rfl, ⟨nd, rfl⟩⟩; refine ⟨_, rfl, ?_⟩))
   go_roundg k1
   case measure => have := HK1.out; omega
   case rel => exact ⟨(wrap64 (x3_1 + ((rd_T35 l0 x8_1).f1))), (wrap64 (x8_1 + 1)), (by first | rfl | (simp; done) | (simp [*]; done)), (by first | rfl | (simp; done) | (simp [*]; done)), H', ⟨by have := HK1.out; omega⟩, ⟨by repeat (first | (with_reducible first | exact HB.out | apply qd | apply qe | apply qf | refine below_set ?_ GE373.out) | exact HB.out)⟩⟩

end Go.Proofs.Ytglekonhdjploaa.XImageForms
