-- printed by wip/xprint.py
import Derived.Test.YtglekonhdjploaaXImageFormsx0
import Derived.Test.YtglekonhdjploaaXImageFormsx2
import Derived.Test.YtglekonhdjploaaXImageFormsx3
import Derived.Test.YtglekonhdjploaaXImageFormsx4
import Derived.Test.YtglekonhdjploaaXImageFormsx7
namespace Go.Proofs.Ytglekonhdjploaa.XImageForms
open Go.RowKit Go.Proofs.YtglekonhdjploaaW.PrintWords Go.Proofs.YtglekonhdjploaaW.PrintLast Go.Proofs.YtglekonhdjploaaW.PrintMore
attribute [local go_sem] max2_int min2_int max_two min_two max_three min_three max_four min_four
set_option linter.unusedVariables false
set_option linter.unusedSimpArgs false

/-! ### image_Alloc: function 39 -/
def image_Alloc.f (k : Nat) (l0 : List Int) (a1 : Int) (l2 : List Int) : Option ((List (S30)) × Int × Int) := (fit_Need.f a1).bind fun t166 => (if t166 = 0 then (some (([] : List (S30)), 0, 1)) else ((chain_Blocks.f k l0).bind fun bt167 => (if bt167.2 = true then ((fit_Choose.f k bt167.1 t166 l2).bind fun t171 => (if t171 < 0 then (some (([] : List (S30)), 0, 4)) else ((carve_Edits.f k bt167.1 t171 t166).bind fun t172 => (if 0 ≤ t171 then (if t171 < (bt167.1.length : Int) then ((carve_Off.f ((rd_T35 bt167.1 t171).f0) ((rd_T35 bt167.1 t171).f1) ((rd_T35 bt167.1 t171).f2)).bind fun t176 => (some (t172, t176, 0))) else (none)) else (none))))) else (some (([] : List (S30)), 0, 6)))))
theorem image_Alloc.mono : ∀ a0 a1 a2 k, LeO (image_Alloc.f k a0 a1 a2) (image_Alloc.f (k + 1) a0 a1 a2) := by
 intro a0 a1 a2 k
 unfold image_Alloc.f
 repeat' first
   | (with_reducible exact carve_Edits.mono _ _ _ _)
   | (with_reducible exact chain_Blocks.mono _ _)
   | (with_reducible exact fit_Choose.mono _ _ _ _)
   | (with_reducible exact LeO.refl _)
   | (with_reducible exact LeO.none _)
   | (with_reducible refine LeO.ite ?_ ?_)
   | (with_reducible refine LeO.bind ?_ (fun _ => ?_))
   | exact carve_Edits.mono _ _ _ _
   | exact chain_Blocks.mono _ _
   | exact fit_Choose.mono _ _ _ _
   | exact LeO.none _
   | refine LeO.ite ?_ ?_
   | refine LeO.bind ?_ (fun _ => ?_)
def image_Alloc.T10 : Bool × List (List Nat × List Nat) := (true, [([], []), ([], []), ([], []), ([0, 1, 2], [0, 1, 2]), ([], []), ([], []), ([4, 5], [4, 5]), ([6], [6]), ([7, 3], [7]), ([3, 8, 0, 1, 2, 3], [3]), ([8, 9, 0, 1, 2, 3, 4, 5, 6, 7, 8, 9], [8]), ([10, 0, 1, 2, 3, 4, 5, 6, 7, 8, 9, 10], [])])
def image_Alloc.B10 : List Nat := [0, 0, 0, 7, 0, 0, 48, 112, 255, 511, 1023, 2047]
theorem image_Alloc.tab10 : rtab .any (opsOf Try.f39 10) = image_Alloc.T10 := by kernel_rfl
theorem image_Alloc.bits10 : waitsOk image_Alloc.T10.2 image_Alloc.B10 = true := by kernel_rfl
set_option maxHeartbeats 8000000 in
set_option maxRecDepth 100000 in
theorem image_Alloc.calls (k : Nat) (A0 : Option Addr) (c0 : Nat) (l0 : List Int) (a1 : Int) (A2 : Option Addr) (c2 : Nat) (l2 : List Int) (r1 : List (S30)) (r2 : Int) (r3 : Int) (w : World) (hr0 : Kd.C (Kd.int .u64) w A0 l0.length l0) (hc0 : l0.length ≤ c0) (hr2 : Kd.C (Kd.int .i64) w A2 l2.length l2) (hc2 : l2.length ≤ c2) (h : image_Alloc.f k l0 a1 l2 = some (r1, r2, r3)) :
  Calls Try.prog 39 #[.slice A0 l0.length c0, .int .i64 a1, .slice A2 l2.length c2] w fun e w' => ∃ v0_ : Value, e = .returned (.tuple #[v0_, .int .i64 r2, .int .i64 r3]) ∧ Kd.R k30 30 w' w.heap.size (fun _ => True) v0_ r1 ∧ Below w.heap.size w w' := by
 have hu35 := Try.underlying35
 have HR0 := Aside0.mk hr0
 have HC0 := Aside0.mk hc0
 clear hr0 hc0
 have HR2 := Aside0.mk hr2
 have HC2 := Aside0.mk hc2
 clear hr2 hc2
 have HB := Aside0.mk (Below.refl w.heap.size w)
 have H : ((fit_Need.f a1).bind fun t166 => (if t166 = 0 then (some (([] : List (S30)), 0, 1)) else ((chain_Blocks.f k l0).bind fun bt167 => (if bt167.2 = true then ((fit_Choose.f k bt167.1 t166 l2).bind fun t171 => (if t171 < 0 then (some (([] : List (S30)), 0, 4)) else ((carve_Edits.f k bt167.1 t171 t166).bind fun t172 => (if 0 ≤ t171 then (if t171 < (bt167.1.length : Int) then ((carve_Off.f ((rd_T35 bt167.1 t171).f0) ((rd_T35 bt167.1 t171).f1) ((rd_T35 bt167.1 t171).f2)).bind fun t176 => (some (t172, t176, 0))) else (none)) else (none))))) else (some (([] : List (S30)), 0, 6)))))) = some (r1, r2, r3) := h
 clear h
 replace H := Option.bind_eq_some_iff.mp H
 obtain ⟨t166, A40, H⟩ := H
 replace H : (if t166 = 0 then (some (([] : List (S30)), 0, 1)) else ((chain_Blocks.f k l0).bind fun bt167 => (if bt167.2 = true then ((fit_Choose.f k bt167.1 t166 l2).bind fun t171 => (if t171 < 0 then (some (([] : List (S30)), 0, 4)) else ((carve_Edits.f k bt167.1 t171 t166).bind fun t172 => (if 0 ≤ t171 then (if t171 < (bt167.1.length : Int) then ((carve_Off.f ((rd_T35 bt167.1 t171).f0) ((rd_T35 bt167.1 t171).f1) ((rd_T35 bt167.1 t171).f2)).bind fun t176 => (some (t172, t176, 0))) else (none)) else (none))))) else (some (([] : List (S30)), 0, 6))))) = some (r1, r2, r3) := H
 have A4 := Aside0.mk A40
 clear A40
 by_cases c5 : t166 = 0
 ·
  rw [if_pos c5] at H
  have c5b0 : (t166 == 0) = true := beq_iff_eq.mpr c5
  have c5b1 : (t166 != 0) = false := bne_eq_false_iff_eq.mpr c5
  clear c5
  simp only [Option.some.injEq, Prod.mk.injEq] at H
  obtain ⟨rfl, rfl, rfl⟩ := H
  go_enter Try.func39, Try.ntmps39
  go_wp2_with (first | ((with_reducible refine gate_callee (f := 32) rfl ?_); refine goesL_ (some 14) rfl rfl Try.func32 (by kernel_rfl) rfl #[.int .i64 a1] rfl (by (try simp only [qj, qk, ql]); first | done | rfl | (simp only [qm, qn]; rfl)) ?_; (with_reducible refine (fit_Need.calls a1 t166 _ A4.out).mono ?_); rintro e w' ⟨rfl, ⟨nd, rfl⟩⟩; refine ⟨_, rfl, ?_⟩))
  go_ret3
  exact ⟨_, by first | rfl | (simp [errW_none, errW_some] <;> rfl) | (simp [*, errW_none, errW_some] <;> rfl), by first | exact Kd.R_nil _ _ _ _ _ | exact Kd.N_nil _ _ _ _ _ | exact Kd.V_nil _ _ _ _ _ | exact Kd.Q_nil _ _ _ _ _ | exact Kd.S_nil _ _ _ _ _, zB HB⟩
 rw [if_neg c5] at H
 have c5b0 : (t166 == 0) = false := beq_eq_false_iff_ne.mpr c5
 have c5b1 : (t166 != 0) = true := bne_iff_ne.mpr c5
 replace H := Option.bind_eq_some_iff.mp H
 obtain ⟨⟨t167, t168⟩, A60, H⟩ := H
 replace H : (if t168 = true then ((fit_Choose.f k t167 t166 l2).bind fun t171 => (if t171 < 0 then (some (([] : List (S30)), 0, 4)) else ((carve_Edits.f k t167 t171 t166).bind fun t172 => (if 0 ≤ t171 then (if t171 < (t167.length : Int) then ((carve_Off.f ((rd_T35 t167 t171).f0) ((rd_T35 t167 t171).f1) ((rd_T35 t167 t171).f2)).bind fun t176 => (some (t172, t176, 0))) else (none)) else (none))))) else (some (([] : List (S30)), 0, 6))) = some (r1, r2, r3) := H
 have A6 := Aside0.mk A60
 clear A60
 by_cases c7 : t168 = true
 rotate_left
 ·
  replace c7 := Bool.eq_false_iff.mpr c7
  subst c7
  have H1 : (some (([] : List (S30)), 0, 6)) = some (r1, r2, r3) := by rw [if_neg (show ¬ (false = true) by decide)] at H; exact H
  clear H
  have H := H1
  clear H1
  simp only [Option.some.injEq, Prod.mk.injEq] at H
  obtain ⟨rfl, rfl, rfl⟩ := H
  go_enter Try.func39, Try.ntmps39
  go_wp2_with (first | ((with_reducible refine gate_callee (f := 32) rfl ?_); refine goesL_ (some 14) rfl rfl Try.func32 (by kernel_rfl) rfl #[.int .i64 a1] rfl (by (try simp only [qj, qk, ql]); first | done | rfl | (simp only [qm, qn]; rfl)) ?_; (with_reducible refine (fit_Need.calls a1 t166 _ A4.out).mono ?_); rintro e w' ⟨rfl, ⟨nd, rfl⟩⟩; refine ⟨_, rfl, ?_⟩) | ((with_reducible refine gate_callee (f := 35) rfl ?_); refine goesL_ (some 19) rfl rfl Try.func35 (by kernel_rfl) rfl #[.slice A0 l0.length c0] rfl (by (try simp only [qj, qk, ql]); first | done | rfl | (simp only [qm, qn]; rfl)) ?_; (with_reducible refine (chain_Blocks.calls k _ _ l0 t167 false _ ?side1 ?side2 A6.out).mono ?_); (case side1 => exact zc HR0.out); (case side2 => exact HC0.out); rintro e w23 ⟨v169, rfl, ho0, hb⟩; refine ⟨_, rfl, ?_⟩; have n0_ := Aside0.mk (Kd.R_lower ho0 (below_size (zB HB))); have n1_ := zb HB hb; clear HB; have HO170 := n0_; have HB := n1_; clear n0_ n1_; (try clear hb); (try clear ho0)))
  go_ret3
  exact ⟨_, by first | rfl | (simp [errW_none, errW_some] <;> rfl) | (simp [*, errW_none, errW_some] <;> rfl), by first | exact Kd.R_nil _ _ _ _ _ | exact Kd.N_nil _ _ _ _ _ | exact Kd.V_nil _ _ _ _ _ | exact Kd.Q_nil _ _ _ _ _ | exact Kd.S_nil _ _ _ _ _, zB HB⟩
 subst c7
 have H1 : ((fit_Choose.f k t167 t166 l2).bind fun t171 => (if t171 < 0 then (some (([] : List (S30)), 0, 4)) else ((carve_Edits.f k t167 t171 t166).bind fun t172 => (if 0 ≤ t171 then (if t171 < (t167.length : Int) then ((carve_Off.f ((rd_T35 t167 t171).f0) ((rd_T35 t167 t171).f1) ((rd_T35 t167 t171).f2)).bind fun t176 => (some (t172, t176, 0))) else (none)) else (none))))) = some (r1, r2, r3) := by rw [if_pos rfl] at H; exact H
 clear H
 have H := H1
 clear H1
 replace H := Option.bind_eq_some_iff.mp H
 obtain ⟨t171, A80, H⟩ := H
 replace H : (if t171 < 0 then (some (([] : List (S30)), 0, 4)) else ((carve_Edits.f k t167 t171 t166).bind fun t172 => (if 0 ≤ t171 then (if t171 < (t167.length : Int) then ((carve_Off.f ((rd_T35 t167 t171).f0) ((rd_T35 t167 t171).f1) ((rd_T35 t167 t171).f2)).bind fun t176 => (some (t172, t176, 0))) else (none)) else (none)))) = some (r1, r2, r3) := H
 have A8 := Aside0.mk A80
 clear A80
 by_cases c9 : t171 < 0
 ·
  rw [if_pos c9] at H
  have c9b0 : decide (t171 < 0) = true := decide_eq_true c9
  clear c9
  simp only [Option.some.injEq, Prod.mk.injEq] at H
  obtain ⟨rfl, rfl, rfl⟩ := H
  go_enter Try.func39, Try.ntmps39
  go_wp2_with (first | ((with_reducible refine gate_callee (f := 32) rfl ?_); refine goesL_ (some 14) rfl rfl Try.func32 (by kernel_rfl) rfl #[.int .i64 a1] rfl (by (try simp only [qj, qk, ql]); first | done | rfl | (simp only [qm, qn]; rfl)) ?_; (with_reducible refine (fit_Need.calls a1 t166 _ A4.out).mono ?_); rintro e w' ⟨rfl, ⟨nd, rfl⟩⟩; refine ⟨_, rfl, ?_⟩) | ((with_reducible refine gate_callee (f := 35) rfl ?_); refine goesL_ (some 19) rfl rfl Try.func35 (by kernel_rfl) rfl #[.slice A0 l0.length c0] rfl (by (try simp only [qj, qk, ql]); first | done | rfl | (simp only [qm, qn]; rfl)) ?_; (with_reducible refine (chain_Blocks.calls k _ _ l0 t167 true _ ?side1 ?side2 A6.out).mono ?_); (case side1 => exact zc HR0.out); (case side2 => exact HC0.out); rintro e w10 ⟨v169, rfl, ho0, hb⟩; refine ⟨_, rfl, ?_⟩; have n0_ := Aside0.mk (Kd.R_lower ho0 (below_size (zB HB))); have n1_ := zb HB hb; clear HB; have HO170 := n0_; have HB := n1_; clear n0_ n1_; (try clear hb); (try clear ho0); obtain ⟨Ao11, co11, eo11⟩ := Kd.R_slice HO170.out; subst eo11) | ((with_reducible refine gate_callee (f := 70) rfl ?_); refine goesL_ (some 27) rfl rfl Try.func70 (by kernel_rfl) rfl #[.slice Ao11 t167.length co11, .int .i64 t166, .slice A2 l2.length c2] rfl (by (try simp only [qj, qk, ql]); first | done | rfl | (simp only [qm, qn]; rfl)) ?_; (with_reducible refine (fit_Choose.calls k _ _ t167 t166 _ _ l2 t171 _ ?side1 ?side2 ?side3 ?side4 A8.out).mono ?_); (case side1 => exact zc (Kd.R_reads' HO170.out).2.2); (case side2 => exact (Kd.R_reads' HO170.out).2.1); (case side3 => exact zc (Kd.C_below HR2.out HB.out)); (case side4 => exact HC2.out); rintro e w12 ⟨rfl, hb⟩; refine ⟨_, rfl, ?_⟩; have n0_ := za HO170 hb; have n1_ := zb HB hb; replace HO170 := n0_; replace HB := n1_; clear n0_ n1_; (try clear hb)))
  go_ret3
  exact ⟨_, by first | rfl | (simp [errW_none, errW_some] <;> rfl) | (simp [*, errW_none, errW_some] <;> rfl), by first | exact Kd.R_nil _ _ _ _ _ | exact Kd.N_nil _ _ _ _ _ | exact Kd.V_nil _ _ _ _ _ | exact Kd.Q_nil _ _ _ _ _ | exact Kd.S_nil _ _ _ _ _, zB HB⟩
 rw [if_neg c9] at H
 have c9b0 : decide (t171 < 0) = false := decide_eq_false c9
 clear c9
 replace H := Option.bind_eq_some_iff.mp H
 obtain ⟨t172, A130, H⟩ := H
 replace H : (if 0 ≤ t171 then (if t171 < (t167.length : Int) then ((carve_Off.f ((rd_T35 t167 t171).f0) ((rd_T35 t167 t171).f1) ((rd_T35 t167 t171).f2)).bind fun t176 => (some (t172, t176, 0))) else (none)) else (none)) = some (r1, r2, r3) := H
 have A13 := Aside0.mk A130
 clear A130
 by_cases c14 : 0 ≤ t171
 rotate_left
 ·
  rw [if_neg c14] at H
  exact absurd H (by simp)
 rw [if_pos c14] at H
 have c14b0 : decide (0 ≤ t171) = true := decide_eq_true c14
 clear c14
 by_cases c15 : t171 < (t167.length : Int)
 rotate_left
 ·
  rw [if_neg c15] at H
  exact absurd H (by simp)
 rw [if_pos c15] at H
 have c15b0 : decide (t171 < (t167.length : Int)) = true := decide_eq_true c15
 clear c15
 replace H := Option.bind_eq_some_iff.mp H
 obtain ⟨t176, A160, H⟩ := H
 replace H : (some (t172, t176, 0)) = some (r1, r2, r3) := H
 have A16 := Aside0.mk A160
 clear A160
 simp only [Option.some.injEq, Prod.mk.injEq] at H
 obtain ⟨rfl, rfl, rfl⟩ := H
 go_enter Try.func39, Try.ntmps39
 try go_wp2_with (first | ((with_reducible refine gate_callee (f := 32) rfl ?_); refine goesL_ (some 14) rfl rfl Try.func32 (by kernel_rfl) rfl #[.int .i64 a1] rfl (by (try simp only [qj, qk, ql]); first | done | rfl | (simp only [qm, qn]; rfl)) ?_; (with_reducible refine (fit_Need.calls a1 t166 _ A4.out).mono ?_); rintro e w' ⟨rfl, ⟨nd, rfl⟩⟩; refine ⟨_, rfl, ?_⟩) | ((with_reducible refine gate_callee (f := 35) rfl ?_); refine goesL_ (some 19) rfl rfl Try.func35 (by kernel_rfl) rfl #[.slice A0 l0.length c0] rfl (by (try simp only [qj, qk, ql]); first | done | rfl | (simp only [qm, qn]; rfl)) ?_; (with_reducible refine (chain_Blocks.calls k _ _ l0 t167 true _ ?side1 ?side2 A6.out).mono ?_); (case side1 => exact zc HR0.out); (case side2 => exact HC0.out); rintro e w17 ⟨v169, rfl, ho0, hb⟩; refine ⟨_, rfl, ?_⟩; have n0_ := Aside0.mk (Kd.R_lower ho0 (below_size (zB HB))); have n1_ := zb HB hb; clear HB; have HO170 := n0_; have HB := n1_; clear n0_ n1_; (try clear hb); (try clear ho0); obtain ⟨Ao18, co18, eo18⟩ := Kd.R_slice HO170.out; subst eo18) | ((with_reducible refine gate_callee (f := 70) rfl ?_); refine goesL_ (some 27) rfl rfl Try.func70 (by kernel_rfl) rfl #[.slice Ao18 t167.length co18, .int .i64 t166, .slice A2 l2.length c2] rfl (by (try simp only [qj, qk, ql]); first | done | rfl | (simp only [qm, qn]; rfl)) ?_; (with_reducible refine (fit_Choose.calls k _ _ t167 t166 _ _ l2 t171 _ ?side1 ?side2 ?side3 ?side4 A8.out).mono ?_); (case side1 => exact zc (Kd.R_reads' HO170.out).2.2); (case side2 => exact (Kd.R_reads' HO170.out).2.1); (case side3 => exact zc (Kd.C_below HR2.out HB.out)); (case side4 => exact HC2.out); rintro e w19 ⟨rfl, hb⟩; refine ⟨_, rfl, ?_⟩; have n0_ := za HO170 hb; have n1_ := zb HB hb; replace HO170 := n0_; replace HB := n1_; clear n0_ n1_; (try clear hb)))
 have n0_ := Aside0.mk (qc HO170.out)
 have n1_ := Aside0.mk (qf HB.out)
 clear HO170
 clear HB
 have HO170 := n0_
 have HB := n1_
 clear n0_ n1_
 have p175 : 0 ≤ (t171 : Int) := zu
 have q175 : t171 < (t167.length : Int) := zu
 obtain ⟨ad175, e175, hx175_0, hx175_1, hx175_2⟩ := at_T35 (Kd.R_reads' HO170.out).2.2 t171 p175 q175
 cases e175
 replace p175 := eq_true p175
 replace q175 := eq_true q175
 refine start_ (n := 12) (S := fun w' => w'.cell? (ad175.add ((t171).toNat * 3)) = some (.int .i64 ((rd_T35 t167 t171).f0)) ∧ w'.cell? ⟨(ad175.add ((t171).toNat * 3)).block, (ad175.add ((t171).toNat * 3)).off + 1, none⟩ = some (.int .i64 ((rd_T35 t167 t171).f1)) ∧ w'.cell? ⟨(ad175.add ((t171).toNat * 3)).block, (ad175.add ((t171).toNat * 3)).off + 2, none⟩ = some (.bool ((rd_T35 t167 t171).f2))) (ds := []) (onA 12 0) (by kernel_rfl) rfl rfl ⟨hx175_0, hx175_1, hx175_2⟩ (fun hHeld => ?_); refine with_tabW image_Alloc.tab10 image_Alloc.bits10 (fun HT_ HW_ => ?_)
 generalize w19.drew = w20 at HO170 HB hx175_0 hx175_1 hx175_2 hHeld ⊢
 refine pu 0 (some 30) (onA 12 1) HT_ (h := ?_)
 refine pu 1 (some 31) (onA 12 2) HT_ (h := ?_)
 refine pu 2 (some 32) (onA 12 3) HT_ (h := ?_)
 refine pu 4 (some 34) #[tt_,tt_,tt_,ff_,tt_,ff_,ff_,ff_,ff_,ff_,ff_,ff_] HT_ (h := ?_)
 refine pu 5 (some 35) #[tt_,tt_,tt_,ff_,tt_,tt_,ff_,ff_,ff_,ff_,ff_,ff_] HT_ (h := ?_)
 refine pu 6 (some 36) #[tt_,tt_,tt_,ff_,tt_,tt_,tt_,ff_,ff_,ff_,ff_,ff_] HT_ (h := ?_)
 refine take_ (i := 7) (N := some 37) (v := ?_) (a' := ?_) #[tt_,tt_,tt_,ff_,tt_,tt_,tt_,tt_,ff_,ff_,ff_,ff_] rfl rfl (take_ofW HT_.out HW_.out (by kernel_rfl)) (fun _ _ _ h => h) (Or.inl ⟨by rfl, ?_⟩) hHeld ?_ ?_
 rotate_left
 ·
  rintro w' ⟨s0, s1, s2⟩
  go_simp
  with_reducible rfl
 rotate_left
 ·
  simp only [Act.put, qg, qh, qi, i64_w, i32_w]
  rfl
 refine one_ (i := 3) (N := some 33) (onA 12 8) rfl rfl (one_of HT_.out (by kernel_rfl)) (by decide) (fun K hK => ?_)
 refine goes_ Try.func26 (by kernel_rfl) rfl #[.slice (some ad175) t167.length co18, .int .i64 t171, .int .i64 t166] (by rfl) rfl rfl (by (try simp only [qj, qk, ql]); first | done | rfl | (simp only [qm, qn]; rfl)) ?_
 with_reducible refine (carve_Edits.calls k _ _ t167 t171 t166 t172 _ ?side1 ?side2 A13.out).mono ?_
 (case side1 => exact zc (Kd.R_reads' HO170.out).2.2)
 (case side2 => exact (Kd.R_reads' HO170.out).2.1)
 rintro e w21 ⟨v173, rfl, ho0, hb⟩
 have HS0_ := (hb.cell (qp _ _ (hHeld.1))).trans (hHeld.1)
 have HS1_ := (hb.cell (qp _ _ (hHeld.2.1))).trans (hHeld.2.1)
 have HS2_ := (hb.cell (qp _ _ (hHeld.2.2))).trans (hHeld.2.2)
 refine ⟨_, rfl, ?_⟩
 have n0_ := za HO170 hb
 have n1_ := Aside0.mk (Kd.R_lower ho0 (below_size (zB HB)))
 have n2_ := zb HB hb
 clear HO170
 clear HB
 have HO170 := n0_
 have HO174 := n1_
 have HB := n2_
 clear n0_ n1_ n2_
 (try clear hb)
 (try clear hb2)
 (try clear hk)
 (try clear hi)
 (try clear ho0)
 refine hK.out _ _ ⟨HS0_, HS1_, HS2_⟩ (fun hHeld => ?_)
 clear hK K
 refine norm_ (a' := ?_) ?_ ?_
 rotate_left
 ·
  show Act.put _ (some 33) _ = _
  simp only [Act.put, qg, qh, qi, i64_w, i32_w]
  rfl
 refine one_ (i := 8) (N := some 38) (onA 12 9) rfl rfl (one_of HT_.out (by kernel_rfl)) (by decide) (fun K hK => ?_)
 refine goes_ Try.func28 (by kernel_rfl) rfl #[.agg #[.int .i64 ((rd_T35 t167 t171).f0), .int .i64 ((rd_T35 t167 t171).f1), .bool ((rd_T35 t167 t171).f2)]] (by rfl) rfl rfl (by (try simp only [qj, qk, ql]); first | done | rfl | (simp only [qm, qn]; rfl)) ?_
 with_reducible refine (carve_Off.calls ((rd_T35 t167 t171).f0) ((rd_T35 t167 t171).f1) ((rd_T35 t167 t171).f2) t176 _ A16.out).mono ?_
 rintro e w22 ⟨rfl, hb⟩
 have HS0_ := (hb.cell (qp _ _ (hHeld.1))).trans (hHeld.1)
 have HS1_ := (hb.cell (qp _ _ (hHeld.2.1))).trans (hHeld.2.1)
 have HS2_ := (hb.cell (qp _ _ (hHeld.2.2))).trans (hHeld.2.2)
 refine ⟨_, rfl, ?_⟩
 have n0_ := za HO170 hb
 have n1_ := za HO174 hb
 have n2_ := zb HB hb
 clear HO170
 clear HO174
 clear HB
 have HO170 := n0_
 have HO174 := n1_
 have HB := n2_
 clear n0_ n1_ n2_
 (try clear hb)
 (try clear hb2)
 (try clear hk)
 (try clear hi)
 refine hK.out _ _ ⟨HS0_, HS1_, HS2_⟩ (fun hHeld => ?_)
 clear hK K
 refine norm_ (a' := ?_) ?_ ?_
 rotate_left
 ·
  show Act.put _ (some 38) _ = _
  simp only [Act.put, qg, qh, qi, i64_w, i32_w]
  rfl
 refine pu 9 (some 6) (onA 12 10) HT_ (h := ?_)
 refine pu 10 (some 7) (onA 12 11) HT_ (h := ?_)
 refine pu 11 (some 8) (onA 12 12) HT_ (h := ?_)
 refine done_ (done_of HT_.out (by kernel_rfl)) ?_
 try go_wp2
 go_ret3
 exact ⟨_, by first | rfl | (simp [errW_none, errW_some] <;> rfl) | (simp [*, errW_none, errW_some] <;> rfl), by (with_reducible repeat (first | apply qa | apply qb | apply qc)); exact HO174.out, zB HB⟩

/-! ### darningref4_Apply: function 34 -/
def darningref4_Apply.l0 : Nat → List Int → List (S30) → Int → Int → Option (List Int)
 | 0, _, _, _, _ => none
 | k + 1, x5, x10, x11, x12 => if x12 < x11 then (if 0 ≤ x12 then (if x12 < (x10.length : Int) then (if ((rd_T30 x10 x12).f0) ≥ 0 then (if ((rd_T30 x10 x12).f0) < (x5.length : Int) then (if 0 ≤ ((rd_T30 x10 x12).f0) then (darningref4_Apply.l0 k (x5.set (((rd_T30 x10 x12).f0) : Int).toNat ((rd_T30 x10 x12).f1)) x10 x11 (wrap64 (x12 + 1))) else (none)) else (darningref4_Apply.l0 k x5 x10 x11 (wrap64 (x12 + 1)))) else (darningref4_Apply.l0 k x5 x10 x11 (wrap64 (x12 + 1)))) else (none)) else (none)) else (some x5)
def darningref4_Apply.f (k : Nat) (l0 : List Int) (l1 : List (S30)) : Option (List Int) := if ([] : List Int).length + l0.length < 17592186044416 then (darningref4_Apply.l0 k (([] : List Int) ++ l0) l1 (l1.length : Int) 0) else (none)
theorem darningref4_Apply.mono_l : ∀ k, (∀ y0 y1 y2 y3, LeO (darningref4_Apply.l0 k y0 y1 y2 y3) (darningref4_Apply.l0 (k + 1) y0 y1 y2 y3))
 | 0 => fun _ _ _ _ r h => by simp [darningref4_Apply.l0] at h
 | k + 1 => by
  have ih0 := darningref4_Apply.mono_l k
  ·
   intro y0 y1 y2 y3
   unfold darningref4_Apply.l0
   repeat' first
   | (with_reducible exact ih0 _ _ _ _)
   | (with_reducible exact LeO.refl _)
   | (with_reducible exact LeO.none _)
   | (with_reducible refine LeO.ite ?_ ?_)
   | (with_reducible refine LeO.bind ?_ (fun _ => ?_))
   | exact ih0 _ _ _ _
   | exact LeO.none _
   | refine LeO.ite ?_ ?_
   | refine LeO.bind ?_ (fun _ => ?_)
theorem darningref4_Apply.mono : ∀ a0 a1 k, LeO (darningref4_Apply.f k a0 a1) (darningref4_Apply.f (k + 1) a0 a1) := by
 intro a0 a1 k
 have ih0 := darningref4_Apply.mono_l k
 unfold darningref4_Apply.f
 repeat' first
   | (with_reducible exact ih0 _ _ _ _)
   | (with_reducible exact LeO.refl _)
   | (with_reducible exact LeO.none _)
   | (with_reducible refine LeO.ite ?_ ?_)
   | (with_reducible refine LeO.bind ?_ (fun _ => ?_))
   | exact ih0 _ _ _ _
   | exact LeO.none _
   | refine LeO.ite ?_ ?_
   | refine LeO.bind ?_ (fun _ => ?_)
set_option maxHeartbeats 8000000 in
set_option maxRecDepth 100000 in
theorem darningref4_Apply.calls (k : Nat) (A0 : Option Addr) (c0 : Nat) (l0 : List Int) (A1 : Option Addr) (c1 : Nat) (l1 : List (S30)) (r : List Int) (w : World) (hr0 : Kd.C (Kd.int .u64) w A0 l0.length l0) (hc0 : l0.length ≤ c0) (hr1 : Kd.C k30 w A1 l1.length l1) (hc1 : l1.length ≤ c1) (h : darningref4_Apply.f k l0 l1 = some r) :
  Calls Try.prog 34 #[.slice A0 l0.length c0, .slice A1 l1.length c1] w fun e w' => ∃ v0_ : Value, e = .returned (v0_) ∧ Kd.R (Kd.int .u64) 28 w' w.heap.size (fun _ => True) v0_ r ∧ Below w.heap.size w w' := by
 have hu30 := Try.underlying30
 have HR0 := Aside0.mk hr0
 have HC0 := Aside0.mk hc0
 clear hr0 hc0
 have HR1 := Aside0.mk hr1
 have HC1 := Aside0.mk hc1
 clear hr1 hc1
 have HB := Aside0.mk (Below.refl w.heap.size w)
 have H : (if ([] : List Int).length + l0.length < 17592186044416 then (darningref4_Apply.l0 k (([] : List Int) ++ l0) l1 (l1.length : Int) 0) else (none)) = some r := h
 clear h
 by_cases c3 : ([] : List Int).length + l0.length < 17592186044416
 rotate_left
 ·
  rw [if_neg c3] at H
  exact absurd H (by simp)
 rw [if_pos c3] at H
 have LMc3 := Aside0.mk c3
 clear c3
 obtain ⟨y177, hy177⟩ : ∃ y_ : List Int, y_ = (([] : List Int) ++ l0) := ⟨_, rfl⟩
 replace H : (darningref4_Apply.l0 k y177 l1 (l1.length : Int) 0) = some r := by first | (rw [hy177]; with_reducible exact H) | (have H2_ := (Option.bind_some _ _).symm.trans H; rw [hy177]; with_reducible exact H2_) | (have H2_ := (Option.bind_some _ _).symm.trans H; with_reducible exact H2_) | with_reducible exact H | (rw [hy177]; exact H) | exact H
 have Ny177 := Aside0.mk hy177
 clear hy177
 have H' := Aside0.mk H
 clear H
 go_enter Try.func34, Try.ntmps34
 go_wp2_with (first | ((with_reducible refine gate_builtin (b := .append) (xs := #[.const (.slice none 0 0), .tmp 8]) rfl ?_); (try (refine gate_guard (by rfl) ?_; dsimp only)); at_builtin; refine Kd.R_append_rows (Kd.int .u64) (w0 := w) w.heap.size rfl (.const (.slice none 0 0)) (.tmp 8) 50 28 (.int .u64 0) 8 rfl Try.underlying50 info28 rfl (by decide) (by omega) (.slice none 0 0) ([] : List Int) l0 _ _ _ (fun _ => True) (fun _ => False) rfl rfl ?aO ?aR (fun _ _ h => h) (fun _ h => h.elim) ?aF ?aB ?aS ?aL ?_; (case aR => repeat (first | exact HR0.out | (with_reducible refine qr ?_ _) | (with_reducible refine qs ?_ _) | (with_reducible refine qt ?_))); (case aB => exact (zB HB)); (case aF => exact (fun _ _ => trivial)); (case aO => exact ((Kd.R_nil _ _ _ _ (fun _ => True)))); (case aS => exact (below_size (zB HB))); (case aL => have := LMc3.out; omega); intro v178 w4 ho hb hg hat; rw [← Ny177.out] at ho; have n0_ := Aside0.mk (hb); have n1_ := Aside0.mk (ho); clear HB; have HB := n0_; have HO179 := n1_; clear n0_ n1_; clear ho hb hg hat))
 go_loopg [12] k (fun kq v12 w' => ∃ (x5_1 : List Int) (x12_1 : Int), v12 = .int .i64 x12_1 ∧ Aside0 (darningref4_Apply.l0 kq x5_1 l1 (l1.length : Int) x12_1 = some r) ∧ Aside0 (kq ≤ k) ∧ Aside0 (Kd.R (Kd.int .u64) 28 w' w.heap.size (fun _ => True) v178 x5_1) ∧ Aside0 (Below w.heap.size w w'))
 case atStart => exact ⟨(y177), (0), (by first | rfl | (simp; done) | (simp [*]; done)), H', ⟨Nat.le_refl _⟩, ⟨zr HO179⟩, ⟨zB HB⟩⟩
 case round =>
  clear H'
  try clear c1
  try clear p2
  try clear c3
  obtain ⟨x5_1, x12_1, rfl, HA, HK1, HO_5, HB⟩ := hrel
  cases gk with
  | zero => exact absurd HA.out (by simp [darningref4_Apply.l0])
  | succ k1 =>
   have H := HA.out
   clear HA
   simp only [darningref4_Apply.l0] at H
   by_cases c5 : x12_1 < (l1.length : Int)
   rotate_left
   ·
    rw [if_neg c5] at H
    have c5b0 : decide (x12_1 < (l1.length : Int)) = false := decide_eq_false c5
    clear c5
    obtain rfl := Option.some.inj H
    go_wp2
    go_ret
    exact ⟨_, by first | rfl | (simp [errW_none, errW_some] <;> rfl) | (simp [*, errW_none, errW_some] <;> rfl), by (with_reducible repeat (first | apply qa | apply qb | apply qc)); exact HO_5.out, zB HB⟩
   rw [if_pos c5] at H
   have c5b0 : decide (x12_1 < (l1.length : Int)) = true := decide_eq_true c5
   clear c5
   by_cases c6 : 0 ≤ x12_1
   rotate_left
   ·
    rw [if_neg c6] at H
    exact absurd H (by simp)
   rw [if_pos c6] at H
   have c6b0 : decide (0 ≤ x12_1) = true := decide_eq_true c6
   clear c6
   by_cases c7 : x12_1 < (l1.length : Int)
   rotate_left
   ·
    rw [if_neg c7] at H
    exact absurd H (by simp)
   rw [if_pos c7] at H
   have c7b0 : decide (x12_1 < (l1.length : Int)) = true := decide_eq_true c7
   clear c7
   by_cases c8 : ((rd_T30 l1 x12_1).f0) ≥ 0
   rotate_left
   ·
    rw [if_neg c8] at H
    have c8b0 : decide (0 ≤ ((rd_T30 l1 x12_1).f0)) = false := decide_eq_false c8
    clear c8
    have H' := Aside0.mk H
    clear H
    have p180 : 0 ≤ (x12_1 : Int) := zu
    have q180 : x12_1 < (l1.length : Int) := zu
    obtain ⟨ad180, e180, hx180_0, hx180_1⟩ := at_T30 HR1.out x12_1 p180 q180
    cases e180
    replace hx180_0 := zw HB hx180_0
    replace hx180_1 := zw HB hx180_1
    replace p180 := eq_true p180
    replace q180 := eq_true q180
    go_wp2_with (first | ((with_reducible refine gate_dst (N := 7) rfl ?_); (try (refine gate_guard (by rfl) ?_; dsimp only)); refine box_event ?hg (N := 7) ?hd (cs := #[.int .i64 0, .int .u64 0]) (t := 30) ?hr ?_; (case hd => rfl); (case hg => rfl); (case hr => first | (go_simp; done) | (go_simp; rfl)); intro gb181 hg w22 hbox hb; have n0_ := za HO_5 hb; have n1_ := zb HB hb; have n2_ := Aside0.mk (hbox); have n3_ := Aside0.mk ((by rw [hg]; exact (below_size (zB HB)) : w.heap.size ≤ gb181)); have n4_ := Aside0.mk ((by rw [hg]; exact (below_size (zB HB)) : w.heap.size ≤ gb181)); clear HO_5; clear HB; have HO_5 := n0_; have HB := n1_; have BK181 := n2_; have GW181 := n3_; have GE181 := n4_; clear n0_ n1_ n2_ n3_ n4_; clear hb hbox hg; have hcz23_0 : w22.cell? ⟨gb181, 0, none⟩ = some (.int .i64 0) := (blk_cell BK181.out 0).trans rfl; have hcz23_1 : w22.cell? ⟨gb181, 1, none⟩ = some (.int .u64 0) := (blk_cell BK181.out 1).trans rfl; have hfz23_0 := blk_frozen BK181.out 0; have hfz23_1 := blk_frozen BK181.out 1))
    go_roundg k1
    case measure => have := HK1.out; omega
    case rel => exact ⟨(x5_1), (wrap64 (x12_1 + 1)), (by first | rfl | (simp; done) | (simp [*]; done)), H', ⟨by have := HK1.out; omega⟩, ⟨by (with_reducible repeat (first | apply qa | apply qb | apply qc)); exact Kd.R_mono (Kd.R_far (p := ⟨gb181, 1, none⟩) (Kd.R_far (p := ⟨gb181, 0, none⟩) (Kd.R_types HO_5.out BK181.out (by decide)) (fun _ hk => hk.2) (.int .i64 ((rd_T30 l1 x12_1).f0))) (fun _ hk => hk.2) (.int .u64 ((rd_T30 l1 x12_1).f1))) (fun _ hk => trivial)⟩, ⟨by repeat (first | (with_reducible first | exact HB.out | apply qd | apply qe | apply qf | refine below_set ?_ GE181.out) | exact HB.out)⟩⟩
   rw [if_pos c8] at H
   have c8b0 : decide (0 ≤ ((rd_T30 l1 x12_1).f0)) = true := decide_eq_true c8
   clear c8
   by_cases c9 : ((rd_T30 l1 x12_1).f0) < (x5_1.length : Int)
   rotate_left
   ·
    rw [if_neg c9] at H
    have c9b0 : decide (((rd_T30 l1 x12_1).f0) < (x5_1.length : Int)) = false := decide_eq_false c9
    clear c9
    have H' := Aside0.mk H
    clear H
    have p180 : 0 ≤ (x12_1 : Int) := zu
    have q180 : x12_1 < (l1.length : Int) := zu
    obtain ⟨ad180, e180, hx180_0, hx180_1⟩ := at_T30 HR1.out x12_1 p180 q180
    cases e180
    replace hx180_0 := zw HB hx180_0
    replace hx180_1 := zw HB hx180_1
    replace p180 := eq_true p180
    replace q180 := eq_true q180
    go_wp2_with (first | ((with_reducible refine gate_dst (N := 7) rfl ?_); (try (refine gate_guard (by rfl) ?_; dsimp only)); refine box_event ?hg (N := 7) ?hd (cs := #[.int .i64 0, .int .u64 0]) (t := 30) ?hr ?_; (case hd => rfl); (case hg => rfl); (case hr => first | (go_simp; done) | (go_simp; rfl)); intro gb181 hg w19 hbox hb; have n0_ := za HO_5 hb; have n1_ := zb HB hb; have n2_ := Aside0.mk (hbox); have n3_ := Aside0.mk ((by rw [hg]; exact (below_size (zB HB)) : w.heap.size ≤ gb181)); have n4_ := Aside0.mk ((by rw [hg]; exact (below_size (zB HB)) : w.heap.size ≤ gb181)); clear HO_5; clear HB; have HO_5 := n0_; have HB := n1_; have BK181 := n2_; have GW181 := n3_; have GE181 := n4_; clear n0_ n1_ n2_ n3_ n4_; clear hb hbox hg; have hcz20_0 : w19.cell? ⟨gb181, 0, none⟩ = some (.int .i64 0) := (blk_cell BK181.out 0).trans rfl; have hcz20_1 : w19.cell? ⟨gb181, 1, none⟩ = some (.int .u64 0) := (blk_cell BK181.out 1).trans rfl; have hfz20_0 := blk_frozen BK181.out 0; have hfz20_1 := blk_frozen BK181.out 1; obtain ⟨Ao21, co21, eo21⟩ := Kd.R_slice HO_5.out; subst eo21))
    go_roundg k1
    case measure => have := HK1.out; omega
    case rel => exact ⟨(x5_1), (wrap64 (x12_1 + 1)), (by first | rfl | (simp; done) | (simp [*]; done)), H', ⟨by have := HK1.out; omega⟩, ⟨by (with_reducible repeat (first | apply qa | apply qb | apply qc)); exact Kd.R_mono (Kd.R_far (p := ⟨gb181, 1, none⟩) (Kd.R_far (p := ⟨gb181, 0, none⟩) (Kd.R_types HO_5.out BK181.out (by decide)) (fun _ hk => hk.2) (.int .i64 ((rd_T30 l1 x12_1).f0))) (fun _ hk => hk.2) (.int .u64 ((rd_T30 l1 x12_1).f1))) (fun _ hk => trivial)⟩, ⟨by repeat (first | (with_reducible first | exact HB.out | apply qd | apply qe | apply qf | refine below_set ?_ GE181.out) | exact HB.out)⟩⟩
   rw [if_pos c9] at H
   have c9b0 : decide (((rd_T30 l1 x12_1).f0) < (x5_1.length : Int)) = true := decide_eq_true c9
   clear c9
   by_cases c10 : 0 ≤ ((rd_T30 l1 x12_1).f0)
   rotate_left
   ·
    rw [if_neg c10] at H
    exact absurd H (by simp)
   rw [if_pos c10] at H
   have c10b0 : decide (0 ≤ ((rd_T30 l1 x12_1).f0)) = true := decide_eq_true c10
   clear c10
   obtain ⟨y182, hy182⟩ : ∃ y_ : List Int, y_ = (x5_1.set (((rd_T30 l1 x12_1).f0) : Int).toNat ((rd_T30 l1 x12_1).f1)) := ⟨_, rfl⟩
   replace H : (darningref4_Apply.l0 k1 y182 l1 (l1.length : Int) (wrap64 (x12_1 + 1))) = some r := by first | (rw [hy182]; with_reducible exact H) | (have H2_ := (Option.bind_some _ _).symm.trans H; rw [hy182]; with_reducible exact H2_) | (have H2_ := (Option.bind_some _ _).symm.trans H; with_reducible exact H2_) | with_reducible exact H | (rw [hy182]; exact H) | exact H
   have Ny182 := Aside0.mk hy182
   clear hy182
   have H' := Aside0.mk H
   clear H
   have p180 : 0 ≤ (x12_1 : Int) := zu
   have q180 : x12_1 < (l1.length : Int) := zu
   obtain ⟨ad180, e180, hx180_0, hx180_1⟩ := at_T30 HR1.out x12_1 p180 q180
   cases e180
   replace hx180_0 := zw HB hx180_0
   replace hx180_1 := zw HB hx180_1
   replace p180 := eq_true p180
   replace q180 := eq_true q180
   go_wp2_with (first | ((with_reducible refine gate_dst (N := 7) rfl ?_); (try (refine gate_guard (by rfl) ?_; dsimp only)); refine box_event ?hg (N := 7) ?hd (cs := #[.int .i64 0, .int .u64 0]) (t := 30) ?hr ?_; (case hd => rfl); (case hg => rfl); (case hr => first | (go_simp; done) | (go_simp; rfl)); intro gb181 hg w12 hbox hb; have n0_ := za HO_5 hb; have n1_ := zb HB hb; have n2_ := Aside0.mk (hbox); have n3_ := Aside0.mk ((by rw [hg]; exact (below_size (zB HB)) : w.heap.size ≤ gb181)); have n4_ := Aside0.mk ((by rw [hg]; exact (below_size (zB HB)) : w.heap.size ≤ gb181)); clear HO_5; clear HB; have HO_5 := n0_; have HB := n1_; have BK181 := n2_; have GW181 := n3_; have GE181 := n4_; clear n0_ n1_ n2_ n3_ n4_; clear hb hbox hg; have hcz13_0 : w12.cell? ⟨gb181, 0, none⟩ = some (.int .i64 0) := (blk_cell BK181.out 0).trans rfl; have hcz13_1 : w12.cell? ⟨gb181, 1, none⟩ = some (.int .u64 0) := (blk_cell BK181.out 1).trans rfl; have hfz13_0 := blk_frozen BK181.out 0; have hfz13_1 := blk_frozen BK181.out 1) | ((with_reducible refine gate_store (t := 30) (p := 7) rfl ?_); refine store_event (t := 30) (p := 7) (v := ?vo_w14) (w1 := ((w12.setCell ⟨gb181, 0, none⟩ (.int .i64 ((rd_T30 l1 x12_1).f0))).setCell ⟨gb181, 1, none⟩ (.int .u64 ((rd_T30 l1 x12_1).f1)))) ?hg ?ho ?hn ?hr ?_; (case ho => rfl); (case hg => rfl); (case hn => rfl); (case hr => first | (go_simp; done) | (go_simp; rfl)); intro w14 hw; have n0_ : Aside0 (Kd.R (Kd.int .u64) 28 w14 w.heap.size (fun _ => True) v178 x5_1) := ⟨(by rw [hw]; exact (by (with_reducible repeat (first | apply qa | apply qb | apply qc)); exact Kd.R_mono (Kd.R_far (p := ⟨gb181, 1, none⟩) (Kd.R_far (p := ⟨gb181, 0, none⟩) (Kd.R_types HO_5.out BK181.out (by decide)) (fun _ hk => hk.2) (.int .i64 ((rd_T30 l1 x12_1).f0))) (fun _ hk => hk.2) (.int .u64 ((rd_T30 l1 x12_1).f1))) (fun _ hk => trivial)))⟩; have n1_ : Aside0 (w14.heap[gb181]? = some (.cells #[.int .i64 ((rd_T30 l1 x12_1).f0), .int .u64 ((rd_T30 l1 x12_1).f1)] 30 (0, 0))) := ⟨(by rw [hw]; exact (by (with_reducible repeat (first | refine blk_drewN ?_ _ | refine blk_drew ?_ | refine blk_alloc ?_ _)); refine blk_put (cs := #[.int .i64 ((rd_T30 l1 x12_1).f0), .int .u64 0]) ?_ 1 _ rfl; (with_reducible repeat (first | refine blk_drewN ?_ _ | refine blk_drew ?_ | refine blk_alloc ?_ _)); refine blk_put (cs := #[.int .i64 0, .int .u64 0]) ?_ 0 _ rfl; (with_reducible repeat (first | refine blk_drewN ?_ _ | refine blk_drew ?_ | refine blk_alloc ?_ _)); exact BK181.out))⟩; have n2_ : Aside0 (Below w.heap.size w w14) := ⟨(by rw [hw]; exact (by repeat (first | (with_reducible first | exact HB.out | apply qd | apply qe | apply qf | refine below_set ?_ GE181.out) | exact HB.out)))⟩; clear hw; clear HO_5; clear BK181; clear HB; have HO_5 := n0_; have BK181 := n1_; have HB := n2_; clear n0_ n1_ n2_; have hcz15_0 : w14.cell? ⟨gb181, 0, none⟩ = some (.int .i64 ((rd_T30 l1 x12_1).f0)) := (blk_cell BK181.out 0).trans rfl; have hcz15_1 : w14.cell? ⟨gb181, 1, none⟩ = some (.int .u64 ((rd_T30 l1 x12_1).f1)) := (blk_cell BK181.out 1).trans rfl; have hfz15_0 := blk_frozen BK181.out 0; have hfz15_1 := blk_frozen BK181.out 1; obtain ⟨Ao16, co16, eo16⟩ := Kd.R_slice HO_5.out; subst eo16; have p11 : 0 ≤ (((rd_T30 l1 x12_1).f0) : Int) := zu; have q11 : (((rd_T30 l1 x12_1).f0) : Int) < ((x5_1.length : Int) : Int) := zu; obtain ⟨go11, co11, eo11, gb11, gl11, cl11, HG11⟩ := Kd.R_form HO_5.out (by omega); (first | cases eo11 | (injection eo11 with ea_ en_ ec_; (first | subst ea_ | (injection ea_ with ea_; subst ea_)); subst ec_; clear en_)); have GB11 := Aside0.mk gb11; have GG11 := Aside0.mk HG11; clear gb11 gl11 HG11; obtain ⟨hx11_0, hf11_0⟩ := Kd.R_celln 0 HO_5.out (((rd_T30 l1 x12_1).f0) : Int) p11 q11; replace p11 := eq_true p11; replace q11 := eq_true q11; obtain ⟨hy17_, hz17_⟩ := Kd.R_celln 0 HO_5.out (((rd_T30 l1 x12_1).f0) : Int) (zu) (zu); have HP17 := Kd.R_putg HO_5.out (((rd_T30 l1 x12_1).f0) : Int) ((rd_T30 l1 x12_1).f1)) | ((with_reducible refine gate_store (t := 28) (p := 31) rfl ?_); refine store_event (t := 28) (p := 31) (v := ?vo_w18) (w1 := (w14.setCell ⟨go11, (((rd_T30 l1 x12_1).f0) : Int).toNat, none⟩ (.int .u64 ((rd_T30 l1 x12_1).f1)))) ?hg ?ho ?hn ?hr ?_; (case ho => rfl); (case hg => rfl); (case hn => rfl); (case hr => first | (go_simp; done) | (go_simp; rfl)); intro w18 hw; have hg : w14.grownBy w18 (some go11) := (by rw [hw]; exact HP17.2); have hp_ : Kd.R (Kd.int .u64) 28 w18 w.heap.size (fun _ => True) (.slice (some ⟨go11, 0, none⟩) x5_1.length co16) y182 := (by rw [hw, Ny182.out]; exact HP17.1); clear HP17; have n0_ := Aside0.mk (hp_); have n1_ := Aside0.mk (blk_grown (g := gb181) (o := .cells #[.int .i64 ((rd_T30 l1 x12_1).f0), .int .u64 ((rd_T30 l1 x12_1).f1)] 30 (0, 0)) (by (with_reducible repeat (first | refine blk_drewN ?_ _ | refine blk_drew ?_ | refine blk_alloc ?_ _)); exact BK181.out) hg (Kd.R_ne HO_5.out BK181.out (by decide))); have n2_ := Aside0.mk ((by rw [hw]; exact below_set (HB.out) GB11.out : Below w.heap.size w w18)); replace HO_5 := n0_; replace BK181 := n1_; replace HB := n2_; clear n0_ n1_ n2_; clear hg hw hp_))
   go_roundg k1
   case measure => have := HK1.out; omega
   case rel => exact ⟨(y182), (wrap64 (x12_1 + 1)), (by first | rfl | (simp; done) | (simp [*]; done)), H', ⟨by have := HK1.out; omega⟩, ⟨zr HO_5⟩, ⟨by repeat (first | (with_reducible first | exact HB.out | apply qd | apply qe | apply qf | refine below_set ?_ GE181.out) | exact HB.out)⟩⟩

/-! ### chain_First: function 38 -/
def chain_First.f (a0 : Int) : Option (List Int) := (chain_mayWords.f a0).bind fun t183 => (if t183 = true then (if 0 ≤ a0 then (if (a0 : Int).toNat ≤ 35184372088832 then ((some (List.replicate (a0 : Int).toNat 0 : List Int)).bind fun y184 => ((block_Word.f a0 false).bind fun t187 => (if 0 < (y184.length : Int) then (some (y184.set (0 : Int).toNat t187)) else (none)))) else (none)) else (none)) else (some ([] : List Int)))
set_option maxHeartbeats 8000000 in
set_option maxRecDepth 100000 in
theorem chain_First.calls (a0 : Int) (r : List Int) (w : World) (h : chain_First.f a0 = some r) :
  Calls Try.prog 38 #[.int .i64 a0] w fun e w' => ∃ v0_ : Value, e = .returned (v0_) ∧ Kd.R (Kd.int .u64) 28 w' w.heap.size (fun _ => True) v0_ r ∧ Below w.heap.size w w' := by
 have HB := Aside0.mk (Below.refl w.heap.size w)
 have H : ((chain_mayWords.f a0).bind fun t183 => (if t183 = true then (if 0 ≤ a0 then (if (a0 : Int).toNat ≤ 35184372088832 then ((some (List.replicate (a0 : Int).toNat 0 : List Int)).bind fun y184 => ((block_Word.f a0 false).bind fun t187 => (if 0 < (y184.length : Int) then (some (y184.set (0 : Int).toNat t187)) else (none)))) else (none)) else (none)) else (some ([] : List Int)))) = some r := h
 clear h
 replace H := Option.bind_eq_some_iff.mp H
 obtain ⟨t183, A20, H⟩ := H
 replace H : (if t183 = true then (if 0 ≤ a0 then (if (a0 : Int).toNat ≤ 35184372088832 then ((some (List.replicate (a0 : Int).toNat 0 : List Int)).bind fun y184 => ((block_Word.f a0 false).bind fun t187 => (if 0 < (y184.length : Int) then (some (y184.set (0 : Int).toNat t187)) else (none)))) else (none)) else (none)) else (some ([] : List Int))) = some r := H
 have A2 := Aside0.mk A20
 clear A20
 by_cases c3 : t183 = true
 rotate_left
 ·
  replace c3 := Bool.eq_false_iff.mpr c3
  subst c3
  have H1 : (some ([] : List Int)) = some r := by rw [if_neg (show ¬ (false = true) by decide)] at H; exact H
  clear H
  have H := H1
  clear H1
  obtain rfl := Option.some.inj H
  go_enter Try.func38, Try.ntmps38
  go_wp2_with (first | ((with_reducible refine gate_callee (f := 67) rfl ?_); refine goesL_ (some 5) rfl rfl Try.func67 (by kernel_rfl) rfl #[.int .i64 a0] rfl (by (try simp only [qj, qk, ql]); first | done | rfl | (simp only [qm, qn]; rfl)) ?_; (with_reducible refine (chain_mayWords.calls a0 false _ A2.out).mono ?_); rintro e w' ⟨rfl, ⟨nd, rfl⟩⟩; refine ⟨_, rfl, ?_⟩))
  go_ret
  exact ⟨_, by first | rfl | (simp [errW_none, errW_some] <;> rfl) | (simp [*, errW_none, errW_some] <;> rfl), by first | exact Kd.R_nil _ _ _ _ _ | exact Kd.N_nil _ _ _ _ _ | exact Kd.V_nil _ _ _ _ _ | exact Kd.Q_nil _ _ _ _ _ | exact Kd.S_nil _ _ _ _ _, zB HB⟩
 subst c3
 have H1 : (if 0 ≤ a0 then (if (a0 : Int).toNat ≤ 35184372088832 then ((some (List.replicate (a0 : Int).toNat 0 : List Int)).bind fun y184 => ((block_Word.f a0 false).bind fun t187 => (if 0 < (y184.length : Int) then (some (y184.set (0 : Int).toNat t187)) else (none)))) else (none)) else (none)) = some r := by rw [if_pos rfl] at H; exact H
 clear H
 have H := H1
 clear H1
 by_cases c4 : 0 ≤ a0
 rotate_left
 ·
  rw [if_neg c4] at H
  exact absurd H (by simp)
 rw [if_pos c4] at H
 have c4b0 := eq_true c4
 have c4b1 : decide (0 ≤ a0) = true := decide_eq_true c4
 clear c4
 by_cases c5 : (a0 : Int).toNat ≤ 35184372088832
 rotate_left
 ·
  rw [if_neg c5] at H
  exact absurd H (by simp)
 rw [if_pos c5] at H
 have c5b0 := eq_true c5
 have c5b1 : decide ((a0 : Int).toNat ≤ 35184372088832) = true := decide_eq_true c5
 clear c5
 obtain ⟨y184, hy184⟩ : ∃ y_ : List Int, y_ = (List.replicate (a0 : Int).toNat 0) := ⟨_, rfl⟩
 replace H : ((block_Word.f a0 false).bind fun t187 => (if 0 < (y184.length : Int) then (some (y184.set (0 : Int).toNat t187)) else (none))) = some r := by first | (rw [hy184]; with_reducible exact H) | (have H2_ := (Option.bind_some _ _).symm.trans H; rw [hy184]; with_reducible exact H2_) | (have H2_ := (Option.bind_some _ _).symm.trans H; with_reducible exact H2_) | with_reducible exact H | (rw [hy184]; exact H) | exact H
 have Ny184 := Aside0.mk hy184
 clear hy184
 replace H := Option.bind_eq_some_iff.mp H
 obtain ⟨t187, A60, H⟩ := H
 replace H : (if 0 < (y184.length : Int) then (some (y184.set (0 : Int).toNat t187)) else (none)) = some r := H
 have A6 := Aside0.mk A60
 clear A60
 by_cases c7 : 0 < (y184.length : Int)
 rotate_left
 ·
  rw [if_neg c7] at H
  exact absurd H (by simp)
 rw [if_pos c7] at H
 have c7b0 : decide (0 < (y184.length : Int)) = true := decide_eq_true c7
 have c7b1 : decide (0 < y184.length) = true := decide_eq_true (by omega)
 clear c7
 obtain ⟨y188, hy188⟩ : ∃ y_ : List Int, y_ = (y184.set (0 : Int).toNat t187) := ⟨_, rfl⟩
 replace H : (some y188) = some r := by first | (rw [hy188]; with_reducible exact H) | (have H2_ := (Option.bind_some _ _).symm.trans H; rw [hy188]; with_reducible exact H2_) | (have H2_ := (Option.bind_some _ _).symm.trans H; with_reducible exact H2_) | with_reducible exact H | (rw [hy188]; exact H) | exact H
 have Ny188 := Aside0.mk hy188
 clear hy188
 obtain rfl := Option.some.inj H
 go_enter Try.func38, Try.ntmps38
 go_wp2_with (first | ((with_reducible refine gate_callee (f := 67) rfl ?_); refine goesL_ (some 5) rfl rfl Try.func67 (by kernel_rfl) rfl #[.int .i64 a0] rfl (by (try simp only [qj, qk, ql]); first | done | rfl | (simp only [qm, qn]; rfl)) ?_; (with_reducible refine (chain_mayWords.calls a0 true _ A2.out).mono ?_); rintro e w' ⟨rfl, ⟨nd, rfl⟩⟩; refine ⟨_, rfl, ?_⟩) | ((with_reducible refine gate_dst (N := 8) rfl ?_); refine Kd.R_make (Kd.int .u64) _ 28 rfl (N := 8) rfl 50 _ _ rfl a0 rfl rfl Try.underlying50 (.int .u64 0) 8 info28 rfl (by decide) (by omega) 0 (ok := fun _ => True) (okp := fun _ => True) rfl (fun _ hk => hk) trivial (zu) (Nat.le_trans (Nat.mul_le_mul_right _ (zu : a0.toNat ≤ 35184372088832)) (by omega)) (Below.refl _ _) (Nat.le_refl _) ?_; intro v185 w9 ho10 hb hg_ hnew_; clear hg_ hnew_; (first | rw [← Ny184.out] at ho10 | (simp only [Int.reduceToNat] at ho10; rw [← Ny184.out] at ho10)); have n0_ := Aside0.mk (Kd.R_lower ho10 (below_size (zB HB))); have n1_ := zb HB hb; clear HB; have HO186 := n0_; have HB := n1_; clear n0_ n1_; clear hb ho10) | ((with_reducible refine gate_callee (f := 61) rfl ?_); refine goesL_ (some 11) rfl rfl Try.func61 (by kernel_rfl) rfl #[.int .i64 a0, .bool false] rfl (by (try simp only [qj, qk, ql]); first | done | rfl | (simp only [qm, qn]; rfl)) ?_; (with_reducible refine (block_Word.calls a0 false t187 _ A6.out).mono ?_); rintro e w' ⟨rfl, ⟨nd, rfl⟩⟩; refine ⟨_, rfl, ?_⟩; (try (rw [drewN_self w9]; generalize hq_ : World.drewN w9 _ = w9; have n0_ : Aside0 (Kd.R (Kd.int .u64) 28 w9 w.heap.size (fun _ => True) v185 y184) := ⟨by rw [← hq_]; exact (zr HO186)⟩; have n1_ : Aside0 (Below w.heap.size w w9) := ⟨by rw [← hq_]; exact (zB HB)⟩; clear HO186 HB hq_; have HO186 := n0_; have HB := n1_; clear n0_ n1_)); have p8 : 0 ≤ (0 : Int) := (by omega); have q8 : (0 : Int) < ((y184.length : Int) : Int) := zu; have qi8 : (0 < y184.length) = True := eq_true (by omega); obtain ⟨go8, co8, eo8, gb8, gl8, cl8, HG8⟩ := Kd.R_form HO186.out (by omega); (first | cases eo8 | (injection eo8 with ea_ en_ ec_; (first | subst ea_ | (injection ea_ with ea_; subst ea_)); subst ec_; clear en_)); have GB8 := Aside0.mk gb8; have GG8 := Aside0.mk HG8; clear gb8 gl8 HG8; obtain ⟨hx8_0, hf8_0⟩ := Kd.R_celln 0 HO186.out (0 : Int) p8 q8; (try rw [show ((0 : Int)).toNat = 0 from rfl] at hx8_0); (try simp only [Nat.reduceMul, Nat.zero_mul, Nat.zero_add, Nat.reduceAdd] at hx8_0); (try rw [show ((0 : Int)).toNat = 0 from rfl] at hf8_0); (try simp only [Nat.reduceMul, Nat.zero_mul, Nat.zero_add, Nat.reduceAdd] at hf8_0); replace p8 := eq_true p8; replace q8 := eq_true q8; obtain ⟨hy11_, hz11_⟩ := Kd.R_celln 0 HO186.out (0 : Int) (by omega) (zu); (try simp only [Int.reduceToNat, Int.toNat_zero, Int.toNat_ofNat, Nat.reduceMul, Nat.zero_mul, Nat.zero_add] at hy11_ hz11_); (try rw [show ((0 : Int)).toNat = 0 from rfl] at hy11_); (try rw [show ((0 : Int)).toNat = 0 from rfl] at hz11_); have HP11 := Kd.R_putg HO186.out (0 : Int) t187) | ((with_reducible refine gate_store (t := 28) (p := 12) rfl ?_); refine store_event (t := 28) (p := 12) (v := ?vo_w12) (w1 := (w9.setCell ⟨go8, (0 : Int).toNat, none⟩ (.int .u64 t187))) ?hg ?ho ?hn ?hr ?_; (case ho => rfl); (case hg => rfl); (case hn => rfl); (case hr => first | (go_simp; done) | (go_simp; rfl)); intro w12 hw; have hg : w9.grownBy w12 (some go8) := (by rw [hw]; exact HP11.2); have hp_ : Kd.R (Kd.int .u64) 28 w12 w.heap.size (fun _ => True) (.slice (some ⟨go8, 0, none⟩) y184.length co8) y188 := (by rw [hw, Ny188.out]; exact HP11.1); clear HP11; have n0_ := Aside0.mk (hp_); have n1_ := Aside0.mk ((by rw [hw]; exact below_set (HB.out) GB8.out : Below w.heap.size w w12)); replace HO186 := n0_; replace HB := n1_; clear n0_ n1_; clear hg hw hp_))
 go_ret
 exact ⟨_, by first | rfl | (simp [errW_none, errW_some] <;> rfl) | (simp [*, errW_none, errW_some] <;> rfl), by (with_reducible repeat (first | apply qa | apply qb | apply qc)); exact HO186.out, zB HB⟩

-- NOT PRINTED: function 86 (api_Block_86)

-- NOT PRINTED: function 71 (api_Block_71)

end Go.Proofs.Ytglekonhdjploaa.XImageForms
