-- printed by wip/xprint.py
import Derived.Test.YtglekonhdjploaaXImageFormsx0
import Derived.Test.YtglekonhdjploaaXImageFormsx8
import Derived.Test.YtglekonhdjploaaXImageFormsx9
import Derived.Test.YtglekonhdjploaaXImageFormsx10
import Derived.Test.YtglekonhdjploaaXImageFormsx11
namespace Go.Proofs.Ytglekonhdjploaa.XImageForms
open Go.RowKit Go.Proofs.YtglekonhdjploaaW.PrintWords Go.Proofs.YtglekonhdjploaaW.PrintLast Go.Proofs.YtglekonhdjploaaW.PrintMore
attribute [local go_sem] max2_int min2_int max_two min_two max_three min_three max_four min_four
set_option linter.unusedVariables false
set_option linter.unusedSimpArgs false

/-! ### image_Write: function 50 -/
def image_Write.f (k : Nat) (l0 : List Int) (a1 : Int) (l2 : List Int) : Option ((List (S30)) × Int) := (image_holds.f k l0 a1 (l2.length : Int)).bind fun t219 => (if t219 = 0 then ((span_Edits.f k l0 a1 l2).bind fun bt220 => (some (bt220.1, 0))) else (some (([] : List (S30)), t219)))
theorem image_Write.mono : ∀ a0 a1 a2 k, LeO (image_Write.f k a0 a1 a2) (image_Write.f (k + 1) a0 a1 a2) := by
 intro a0 a1 a2 k
 unfold image_Write.f
 repeat' first
   | (with_reducible exact image_holds.mono _ _ _ _)
   | (with_reducible exact span_Edits.mono _ _ _ _)
   | (with_reducible exact LeO.refl _)
   | (with_reducible exact LeO.none _)
   | (with_reducible refine LeO.ite ?_ ?_)
   | (with_reducible refine LeO.bind ?_ (fun _ => ?_))
   | exact image_holds.mono _ _ _ _
   | exact span_Edits.mono _ _ _ _
   | exact LeO.none _
   | refine LeO.ite ?_ ?_
   | refine LeO.bind ?_ (fun _ => ?_)
set_option maxHeartbeats 8000000 in
set_option maxRecDepth 100000 in
theorem image_Write.calls (k : Nat) (A0 : Option Addr) (c0 : Nat) (l0 : List Int) (a1 : Int) (A2 : Option Addr) (c2 : Nat) (l2 : List Int) (r1 : List (S30)) (r2 : Int) (w : World) (hr0 : Kd.C (Kd.int .u64) w A0 l0.length l0) (hc0 : l0.length ≤ c0) (hr2 : Kd.C (Kd.int .u8) w A2 l2.length l2) (hc2 : l2.length ≤ c2) (h : image_Write.f k l0 a1 l2 = some (r1, r2)) :
  Calls Try.prog 50 #[.slice A0 l0.length c0, .int .i64 a1, .slice A2 l2.length c2] w fun e w' => ∃ v0_ : Value, e = .returned (.tuple #[v0_, .int .i64 r2]) ∧ Kd.R k30 30 w' w.heap.size (fun _ => True) v0_ r1 ∧ Below w.heap.size w w' := by
 have HR0 := Aside0.mk hr0
 have HC0 := Aside0.mk hc0
 clear hr0 hc0
 have HR2 := Aside0.mk hr2
 have HC2 := Aside0.mk hc2
 clear hr2 hc2
 have HB := Aside0.mk (Below.refl w.heap.size w)
 have H : ((image_holds.f k l0 a1 (l2.length : Int)).bind fun t219 => (if t219 = 0 then ((span_Edits.f k l0 a1 l2).bind fun bt220 => (some (bt220.1, 0))) else (some (([] : List (S30)), t219)))) = some (r1, r2) := h
 clear h
 replace H := Option.bind_eq_some_iff.mp H
 obtain ⟨t219, A40, H⟩ := H
 replace H : (if t219 = 0 then ((span_Edits.f k l0 a1 l2).bind fun bt220 => (some (bt220.1, 0))) else (some (([] : List (S30)), t219))) = some (r1, r2) := H
 have A4 := Aside0.mk A40
 clear A40
 by_cases c5 : t219 = 0
 rotate_left
 ·
  rw [if_neg c5] at H
  have c5b0 : (t219 == 0) = false := beq_eq_false_iff_ne.mpr c5
  have c5b1 : (t219 != 0) = true := bne_iff_ne.mpr c5
  simp only [Option.some.injEq, Prod.mk.injEq] at H
  obtain ⟨rfl, rfl⟩ := H
  go_enter Try.func50, Try.ntmps50
  go_wp2_with (first | ((with_reducible refine gate_callee (f := 75) rfl ?_); refine goesL_ (some 15) rfl rfl Try.func75 (by kernel_rfl) rfl #[.slice A0 l0.length c0, .int .i64 a1, .int .i64 (l2.length : Int)] rfl (by (try simp only [qj, qk, ql]); first | done | rfl | (simp only [qm, qn]; rfl)) ?_; (with_reducible refine (image_holds.calls k _ _ l0 a1 (l2.length : Int) t219 _ ?side1 ?side2 A4.out).mono ?_); (case side1 => exact zc HR0.out); (case side2 => exact HC0.out); rintro e w9 ⟨rfl, hb⟩; refine ⟨_, rfl, ?_⟩; have n0_ := zb HB hb; replace HB := n0_; clear n0_; (try clear hb)))
  go_ret2
  exact ⟨_, by first | rfl | (simp [errW_none, errW_some] <;> rfl) | (simp [*, errW_none, errW_some] <;> rfl), by first | exact Kd.R_nil _ _ _ _ _ | exact Kd.N_nil _ _ _ _ _ | exact Kd.V_nil _ _ _ _ _ | exact Kd.Q_nil _ _ _ _ _ | exact Kd.S_nil _ _ _ _ _, zB HB⟩
 rw [if_pos c5] at H
 have c5b0 : (t219 == 0) = true := beq_iff_eq.mpr c5
 have c5b1 : (t219 != 0) = false := bne_eq_false_iff_eq.mpr c5
 clear c5
 replace H := Option.bind_eq_some_iff.mp H
 obtain ⟨⟨t220, t221⟩, A60, H⟩ := H
 replace H : (some (t220, 0)) = some (r1, r2) := H
 have A6 := Aside0.mk A60
 clear A60
 simp only [Option.some.injEq, Prod.mk.injEq] at H
 obtain ⟨rfl, rfl⟩ := H
 go_enter Try.func50, Try.ntmps50
 go_wp2_with (first | ((with_reducible refine gate_callee (f := 75) rfl ?_); refine goesL_ (some 15) rfl rfl Try.func75 (by kernel_rfl) rfl #[.slice A0 l0.length c0, .int .i64 a1, .int .i64 (l2.length : Int)] rfl (by (try simp only [qj, qk, ql]); first | done | rfl | (simp only [qm, qn]; rfl)) ?_; (with_reducible refine (image_holds.calls k _ _ l0 a1 (l2.length : Int) t219 _ ?side1 ?side2 A4.out).mono ?_); (case side1 => exact zc HR0.out); (case side2 => exact HC0.out); rintro e w7 ⟨rfl, hb⟩; refine ⟨_, rfl, ?_⟩; have n0_ := zb HB hb; replace HB := n0_; clear n0_; (try clear hb)) | ((with_reducible refine gate_callee (f := 78) rfl ?_); refine goesL_ (some 23) rfl rfl Try.func78 (by kernel_rfl) rfl #[.slice A0 l0.length c0, .int .i64 a1, .slice A2 l2.length c2] rfl (by (try simp only [qj, qk, ql]); first | done | rfl | (simp only [qm, qn]; rfl)) ?_; (with_reducible refine (span_Edits.calls k _ _ l0 a1 _ _ l2 t220 t221 _ ?side1 ?side2 ?side3 ?side4 A6.out).mono ?_); (case side1 => exact zc (Kd.C_below HR0.out HB.out)); (case side2 => exact HC0.out); (case side3 => exact zc (Kd.C_below HR2.out HB.out)); (case side4 => exact HC2.out); rintro e w8 ⟨v222, rfl, ho0, hb⟩; refine ⟨_, rfl, ?_⟩; have n0_ := Aside0.mk (Kd.R_lower ho0 (below_size (zB HB))); have n1_ := zb HB hb; clear HB; have HO223 := n0_; have HB := n1_; clear n0_ n1_; (try clear hb); (try clear ho0)))
 go_ret2
 exact ⟨_, by first | rfl | (simp [errW_none, errW_some] <;> rfl) | (simp [*, errW_none, errW_some] <;> rfl), by (with_reducible repeat (first | apply qa | apply qb | apply qc)); exact HO223.out, zB HB⟩

/-! ### darninglaw19_awake: function 40 -/
def darninglaw19_awake.f (k : Nat)  : Option (Bool) := (chain_First.f 16).bind fun t224 => ((image_Alloc.f k t224 8 ([] : List Int)).bind fun bt227 => ((darningref4_Apply.f k t224 bt227.1).bind fun t232 => ((image_Write.f k t232 bt227.2.1 (([7] : List Int))).bind fun bt238 => ((darningref4_Apply.f k t232 bt238.1).bind fun t242 => ((image_Read.f k t242 bt227.2.1 2).bind fun bt245 => (if bt227.2.2 = 0 then (if bt227.2.1 = 8 then (if bt238.2 = 0 then (if bt245.2 = 0 then (if (strOfNums bt245.1).toList = ([7, 0] : List UInt8) then ((image_Is.f k t242 8).bind fun t249 => (if t249 = true then ((image_Holds.f k t242 8 8).bind fun t250 => (if t250 = true then ((image_Holds.f k t242 8 9).bind fun t251 => (some (!t251))) else (some false))) else (some false))) else (some false)) else (some false)) else (some false)) else (some false)) else (some false)))))))
theorem darninglaw19_awake.mono : ∀ k, LeO (darninglaw19_awake.f k ) (darninglaw19_awake.f (k + 1) ) := by
 intro  k
 unfold darninglaw19_awake.f
 repeat' first
   | (with_reducible exact darningref4_Apply.mono _ _ _)
   | (with_reducible exact image_Alloc.mono _ _ _ _)
   | (with_reducible exact image_Holds.mono _ _ _ _)
   | (with_reducible exact image_Is.mono _ _ _)
   | (with_reducible exact image_Read.mono _ _ _ _)
   | (with_reducible exact image_Write.mono _ _ _ _)
   | (with_reducible exact LeO.refl _)
   | (with_reducible exact LeO.none _)
   | (with_reducible refine LeO.ite ?_ ?_)
   | (with_reducible refine LeO.bind ?_ (fun _ => ?_))
   | exact darningref4_Apply.mono _ _ _
   | exact image_Alloc.mono _ _ _ _
   | exact image_Holds.mono _ _ _ _
   | exact image_Is.mono _ _ _
   | exact image_Read.mono _ _ _ _
   | exact image_Write.mono _ _ _ _
   | exact LeO.none _
   | refine LeO.ite ?_ ?_
   | refine LeO.bind ?_ (fun _ => ?_)
set_option maxHeartbeats 8000000 in
set_option maxRecDepth 100000 in
theorem darninglaw19_awake.calls (k : Nat)  (w : World) (h : darninglaw19_awake.f k  = some true) :
  Calls Try.prog 40 #[] w fun e w' => e = .returned (.bool true) ∧ Below w.heap.size w w' := by
 have HB := Aside0.mk (Below.refl w.heap.size w)
 have H : ((chain_First.f 16).bind fun t224 => ((image_Alloc.f k t224 8 ([] : List Int)).bind fun bt227 => ((darningref4_Apply.f k t224 bt227.1).bind fun t232 => ((image_Write.f k t232 bt227.2.1 (([7] : List Int))).bind fun bt238 => ((darningref4_Apply.f k t232 bt238.1).bind fun t242 => ((image_Read.f k t242 bt227.2.1 2).bind fun bt245 => (if bt227.2.2 = 0 then (if bt227.2.1 = 8 then (if bt238.2 = 0 then (if bt245.2 = 0 then (if (strOfNums bt245.1).toList = ([7, 0] : List UInt8) then ((image_Is.f k t242 8).bind fun t249 => (if t249 = true then ((image_Holds.f k t242 8 8).bind fun t250 => (if t250 = true then ((image_Holds.f k t242 8 9).bind fun t251 => (some (!t251))) else (some false))) else (some false))) else (some false)) else (some false)) else (some false)) else (some false)) else (some false)))))))) = some true := h
 clear h
 replace H := Option.bind_eq_some_iff.mp H
 obtain ⟨t224, A10, H⟩ := H
 replace H : ((image_Alloc.f k t224 8 ([] : List Int)).bind fun bt227 => ((darningref4_Apply.f k t224 bt227.1).bind fun t232 => ((image_Write.f k t232 bt227.2.1 (([7] : List Int))).bind fun bt238 => ((darningref4_Apply.f k t232 bt238.1).bind fun t242 => ((image_Read.f k t242 bt227.2.1 2).bind fun bt245 => (if bt227.2.2 = 0 then (if bt227.2.1 = 8 then (if bt238.2 = 0 then (if bt245.2 = 0 then (if (strOfNums bt245.1).toList = ([7, 0] : List UInt8) then ((image_Is.f k t242 8).bind fun t249 => (if t249 = true then ((image_Holds.f k t242 8 8).bind fun t250 => (if t250 = true then ((image_Holds.f k t242 8 9).bind fun t251 => (some (!t251))) else (some false))) else (some false))) else (some false)) else (some false)) else (some false)) else (some false)) else (some false))))))) = some true := H
 have A1 := Aside0.mk A10
 clear A10
 replace H := Option.bind_eq_some_iff.mp H
 obtain ⟨⟨t227, t228, t229⟩, A20, H⟩ := H
 replace H : ((darningref4_Apply.f k t224 t227).bind fun t232 => ((image_Write.f k t232 t228 (([7] : List Int))).bind fun bt238 => ((darningref4_Apply.f k t232 bt238.1).bind fun t242 => ((image_Read.f k t242 t228 2).bind fun bt245 => (if t229 = 0 then (if t228 = 8 then (if bt238.2 = 0 then (if bt245.2 = 0 then (if (strOfNums bt245.1).toList = ([7, 0] : List UInt8) then ((image_Is.f k t242 8).bind fun t249 => (if t249 = true then ((image_Holds.f k t242 8 8).bind fun t250 => (if t250 = true then ((image_Holds.f k t242 8 9).bind fun t251 => (some (!t251))) else (some false))) else (some false))) else (some false)) else (some false)) else (some false)) else (some false)) else (some false)))))) = some true := H
 have A2 := Aside0.mk A20
 clear A20
 replace H := Option.bind_eq_some_iff.mp H
 obtain ⟨t232, A30, H⟩ := H
 replace H : ((image_Write.f k t232 t228 (([7] : List Int))).bind fun bt238 => ((darningref4_Apply.f k t232 bt238.1).bind fun t242 => ((image_Read.f k t242 t228 2).bind fun bt245 => (if t229 = 0 then (if t228 = 8 then (if bt238.2 = 0 then (if bt245.2 = 0 then (if (strOfNums bt245.1).toList = ([7, 0] : List UInt8) then ((image_Is.f k t242 8).bind fun t249 => (if t249 = true then ((image_Holds.f k t242 8 8).bind fun t250 => (if t250 = true then ((image_Holds.f k t242 8 9).bind fun t251 => (some (!t251))) else (some false))) else (some false))) else (some false)) else (some false)) else (some false)) else (some false)) else (some false))))) = some true := H
 have A3 := Aside0.mk A30
 clear A30
 obtain ⟨y235, hy235⟩ : ∃ y_ : List Int, y_ = (([7] : List Int)) := ⟨_, rfl⟩
 replace H : ((image_Write.f k t232 t228 y235).bind fun bt238 => ((darningref4_Apply.f k t232 bt238.1).bind fun t242 => ((image_Read.f k t242 t228 2).bind fun bt245 => (if t229 = 0 then (if t228 = 8 then (if bt238.2 = 0 then (if bt245.2 = 0 then (if (strOfNums bt245.1).toList = ([7, 0] : List UInt8) then ((image_Is.f k t242 8).bind fun t249 => (if t249 = true then ((image_Holds.f k t242 8 8).bind fun t250 => (if t250 = true then ((image_Holds.f k t242 8 9).bind fun t251 => (some (!t251))) else (some false))) else (some false))) else (some false)) else (some false)) else (some false)) else (some false)) else (some false))))) = some true := by first | (rw [hy235]; with_reducible exact H) | (have H2_ := (Option.bind_some _ _).symm.trans H; rw [hy235]; with_reducible exact H2_) | (have H2_ := (Option.bind_some _ _).symm.trans H; with_reducible exact H2_) | with_reducible exact H | (rw [hy235]; exact H) | exact H
 have Ny235 := Aside0.mk hy235
 clear hy235
 replace H := Option.bind_eq_some_iff.mp H
 obtain ⟨⟨t238, t239⟩, A40, H⟩ := H
 replace H : ((darningref4_Apply.f k t232 t238).bind fun t242 => ((image_Read.f k t242 t228 2).bind fun bt245 => (if t229 = 0 then (if t228 = 8 then (if t239 = 0 then (if bt245.2 = 0 then (if (strOfNums bt245.1).toList = ([7, 0] : List UInt8) then ((image_Is.f k t242 8).bind fun t249 => (if t249 = true then ((image_Holds.f k t242 8 8).bind fun t250 => (if t250 = true then ((image_Holds.f k t242 8 9).bind fun t251 => (some (!t251))) else (some false))) else (some false))) else (some false)) else (some false)) else (some false)) else (some false)) else (some false)))) = some true := H
 have A4 := Aside0.mk A40
 clear A40
 replace H := Option.bind_eq_some_iff.mp H
 obtain ⟨t242, A50, H⟩ := H
 replace H : ((image_Read.f k t242 t228 2).bind fun bt245 => (if t229 = 0 then (if t228 = 8 then (if t239 = 0 then (if bt245.2 = 0 then (if (strOfNums bt245.1).toList = ([7, 0] : List UInt8) then ((image_Is.f k t242 8).bind fun t249 => (if t249 = true then ((image_Holds.f k t242 8 8).bind fun t250 => (if t250 = true then ((image_Holds.f k t242 8 9).bind fun t251 => (some (!t251))) else (some false))) else (some false))) else (some false)) else (some false)) else (some false)) else (some false)) else (some false))) = some true := H
 have A5 := Aside0.mk A50
 clear A50
 replace H := Option.bind_eq_some_iff.mp H
 obtain ⟨⟨t245, t246⟩, A60, H⟩ := H
 replace H : (if t229 = 0 then (if t228 = 8 then (if t239 = 0 then (if t246 = 0 then (if (strOfNums t245).toList = ([7, 0] : List UInt8) then ((image_Is.f k t242 8).bind fun t249 => (if t249 = true then ((image_Holds.f k t242 8 8).bind fun t250 => (if t250 = true then ((image_Holds.f k t242 8 9).bind fun t251 => (some (!t251))) else (some false))) else (some false))) else (some false)) else (some false)) else (some false)) else (some false)) else (some false)) = some true := H
 have A6 := Aside0.mk A60
 clear A60
 by_cases c7 : t229 = 0
 rotate_left
 ·
  rw [if_neg c7] at H
  have c7b0 : (t229 == 0) = false := beq_eq_false_iff_ne.mpr c7
  have c7b1 : (t229 != 0) = true := bne_iff_ne.mpr c7
  exact absurd H (by simp)
 rw [if_pos c7] at H
 have c7b0 : (t229 == 0) = true := beq_iff_eq.mpr c7
 have c7b1 : (t229 != 0) = false := bne_eq_false_iff_eq.mpr c7
 clear c7
 by_cases c8 : t228 = 8
 rotate_left
 ·
  rw [if_neg c8] at H
  have c8b0 : (t228 == 8) = false := beq_eq_false_iff_ne.mpr c8
  have c8b1 : (t228 != 8) = true := bne_iff_ne.mpr c8
  exact absurd H (by simp)
 rw [if_pos c8] at H
 have c8b0 : (t228 == 8) = true := beq_iff_eq.mpr c8
 have c8b1 : (t228 != 8) = false := bne_eq_false_iff_eq.mpr c8
 clear c8
 by_cases c9 : t239 = 0
 rotate_left
 ·
  rw [if_neg c9] at H
  have c9b0 : (t239 == 0) = false := beq_eq_false_iff_ne.mpr c9
  have c9b1 : (t239 != 0) = true := bne_iff_ne.mpr c9
  exact absurd H (by simp)
 rw [if_pos c9] at H
 have c9b0 : (t239 == 0) = true := beq_iff_eq.mpr c9
 have c9b1 : (t239 != 0) = false := bne_eq_false_iff_eq.mpr c9
 clear c9
 by_cases c10 : t246 = 0
 rotate_left
 ·
  rw [if_neg c10] at H
  have c10b0 : (t246 == 0) = false := beq_eq_false_iff_ne.mpr c10
  have c10b1 : (t246 != 0) = true := bne_iff_ne.mpr c10
  exact absurd H (by simp)
 rw [if_pos c10] at H
 have c10b0 : (t246 == 0) = true := beq_iff_eq.mpr c10
 have c10b1 : (t246 != 0) = false := bne_eq_false_iff_eq.mpr c10
 clear c10
 by_cases c11 : (strOfNums t245).toList = ([7, 0] : List UInt8)
 rotate_left
 ·
  rw [if_neg c11] at H
  have c11b0 : ((strOfNums t245).toList == ([7, 0] : List UInt8)) = false := beq_eq_false_iff_ne.mpr c11
  have c11b1 : ((strOfNums t245).toList != ([7, 0] : List UInt8)) = true := bne_iff_ne.mpr c11
  exact absurd H (by simp)
 rw [if_pos c11] at H
 have c11b0 : ((strOfNums t245).toList == ([7, 0] : List UInt8)) = true := beq_iff_eq.mpr c11
 have c11b1 : ((strOfNums t245).toList != ([7, 0] : List UInt8)) = false := bne_eq_false_iff_eq.mpr c11
 clear c11
 replace H := Option.bind_eq_some_iff.mp H
 obtain ⟨t249, A120, H⟩ := H
 replace H : (if t249 = true then ((image_Holds.f k t242 8 8).bind fun t250 => (if t250 = true then ((image_Holds.f k t242 8 9).bind fun t251 => (some (!t251))) else (some false))) else (some false)) = some true := H
 have A12 := Aside0.mk A120
 clear A120
 by_cases c13 : t249 = true
 rotate_left
 ·
  replace c13 := Bool.eq_false_iff.mpr c13
  subst c13
  have H1 : (some false) = some true := by rw [if_neg (show ¬ (false = true) by decide)] at H; exact H
  clear H
  have H := H1
  clear H1
  exact absurd H (by simp)
 subst c13
 have H1 : ((image_Holds.f k t242 8 8).bind fun t250 => (if t250 = true then ((image_Holds.f k t242 8 9).bind fun t251 => (some (!t251))) else (some false))) = some true := by rw [if_pos rfl] at H; exact H
 clear H
 have H := H1
 clear H1
 replace H := Option.bind_eq_some_iff.mp H
 obtain ⟨t250, A140, H⟩ := H
 replace H : (if t250 = true then ((image_Holds.f k t242 8 9).bind fun t251 => (some (!t251))) else (some false)) = some true := H
 have A14 := Aside0.mk A140
 clear A140
 by_cases c15 : t250 = true
 rotate_left
 ·
  replace c15 := Bool.eq_false_iff.mpr c15
  subst c15
  have H1 : (some false) = some true := by rw [if_neg (show ¬ (false = true) by decide)] at H; exact H
  clear H
  have H := H1
  clear H1
  exact absurd H (by simp)
 subst c15
 have H1 : ((image_Holds.f k t242 8 9).bind fun t251 => (some (!t251))) = some true := by rw [if_pos rfl] at H; exact H
 clear H
 have H := H1
 clear H1
 replace H := Option.bind_eq_some_iff.mp H
 obtain ⟨t251, A160, H⟩ := H
 replace H : (some (!t251)) = some true := H
 have A16 := Aside0.mk A160
 clear A160
 obtain rfl : t251 = false := by simpa using Option.some.inj H
 go_enter Try.func40, Try.ntmps40
 go_wp2_with (first | ((with_reducible refine gate_callee (f := 38) rfl ?_); refine goesL_ (some 9) rfl rfl Try.func38 (by kernel_rfl) rfl #[.int .i64 16] rfl (by (try simp only [qj, qk, ql]); first | done | rfl | (simp only [qm, qn]; rfl)) ?_; (with_reducible refine (chain_First.calls 16 t224 _ A1.out).mono ?_); rintro e w17 ⟨v225, rfl, ho0, hb⟩; refine ⟨_, rfl, ?_⟩; have n0_ := Aside0.mk (Kd.R_lower ho0 (below_size (zB HB))); have n1_ := zb HB hb; clear HB; have HO226 := n0_; have HB := n1_; clear n0_ n1_; (try clear hb); (try clear ho0); obtain ⟨Ao18, co18, eo18⟩ := Kd.R_slice HO226.out; subst eo18) | ((with_reducible refine gate_callee (f := 39) rfl ?_); refine goesL_ (some 12) rfl rfl Try.func39 (by kernel_rfl) rfl #[.slice Ao18 t224.length co18, .int .i64 8, .slice none 0 0] rfl (by (try simp only [qj, qk, ql]); first | done | rfl | (simp only [qm, qn]; rfl)) ?_; (refine (image_Alloc.calls k _ _ t224 8 _ _ ([] : List Int) t227 t228 t229 _ ?side1 ?side2 ?side3 ?side4 A2.out).mono ?_); (case side1 => exact zc (Kd.R_reads' HO226.out).2.2); (case side2 => exact (Kd.R_reads' HO226.out).2.1); (case side3 => exact Kd.C_nil _ _); (case side4 => exact Nat.le_refl _); rintro e w19 ⟨v230, rfl, ho0, hb⟩; refine ⟨_, rfl, ?_⟩; have n0_ := za HO226 hb; have n1_ := Aside0.mk (Kd.R_lower ho0 (below_size (zB HB))); have n2_ := zb HB hb; clear HO226; clear HB; have HO226 := n0_; have HO231 := n1_; have HB := n2_; clear n0_ n1_ n2_; (try clear hb); (try clear ho0); obtain ⟨Ao20, co20, eo20⟩ := Kd.R_slice HO231.out; subst eo20) | ((with_reducible refine gate_callee (f := 34) rfl ?_); refine goesL_ (some 18) rfl rfl Try.func34 (by kernel_rfl) rfl #[.slice Ao18 t224.length co18, .slice Ao20 t227.length co20] rfl (by (try simp only [qj, qk, ql]); first | done | rfl | (simp only [qm, qn]; rfl)) ?_; (with_reducible refine (darningref4_Apply.calls k _ _ t224 _ _ t227 t232 _ ?side1 ?side2 ?side3 ?side4 A3.out).mono ?_); (case side1 => exact zc (Kd.R_reads' HO226.out).2.2); (case side2 => exact (Kd.R_reads' HO226.out).2.1); (case side3 => exact zc (Kd.R_reads' HO231.out).2.2); (case side4 => exact (Kd.R_reads' HO231.out).2.1); rintro e w21 ⟨v233, rfl, ho0, hb⟩; refine ⟨_, rfl, ?_⟩; have n0_ := Aside0.mk (Kd.R_elder' (zr HO226) (Kd.R_base ho0) hb); have n1_ := za HO231 hb; have n2_ := Aside0.mk (Kd.R_lower (Kd.R_new' ho0 (Kd.R_lt (zr HO226))) (below_size (zB HB))); have n3_ := zb HB hb; clear HO226; clear HO231; clear HB; have HO226 := n0_; have HO231 := n1_; have HO234 := n2_; have HB := n3_; clear n0_ n1_ n2_ n3_; (try clear hb); (try clear ho0)) | ((with_reducible refine gate_dst (N := 22) rfl ?_); refine Kd.R_lit (Kd.int .u8) _ 5 ?hg (N := 22) ?hd (xs := ([7] : List Int)) (inner := [.int .u8 7]) (ok := fun _ => True) (okp := fun _ => True) ?hr ?hp (fun _ hk => hk) trivial (Below.refl _ _) (Nat.le_refl _) (by simp) ?_; (case hd => rfl); (case hg => rfl); (case hr => first | (go_simp; done) | (go_simp; rfl)); (case hp => exact (Reps.one (show Kd.M (Kd.int .u8) _ _ _ 7 [.int .u8 7] from rfl) (Reps.none _ _))); intro v236 w22 ho23 hb hg_ hnew_; clear hg_ hnew_; (first | rw [← Ny235.out] at ho23 | (simp only [Int.reduceToNat] at ho23; rw [← Ny235.out] at ho23)); have n0_ := za HO226 hb; have n1_ := za HO231 hb; have n2_ := za HO234 hb; have n3_ := Aside0.mk (Kd.R_lower ho23 (below_size (zB HB))); have n4_ := zb HB hb; clear HO226; clear HO231; clear HO234; clear HB; have HO226 := n0_; have HO231 := n1_; have HO234 := n2_; have HO237 := n3_; have HB := n4_; clear n0_ n1_ n2_ n3_ n4_; clear hb ho23; obtain ⟨Ao24, co24, eo24⟩ := Kd.R_slice HO234.out; subst eo24; obtain ⟨Ao25, co25, eo25⟩ := Kd.R_slice HO237.out; subst eo25) | ((with_reducible refine gate_callee (f := 50) rfl ?_); refine goesL_ (some 23) rfl rfl Try.func50 (by kernel_rfl) rfl #[.slice Ao24 t232.length co24, .int .i64 t228, .slice Ao25 y235.length co25] rfl (by (try simp only [qj, qk, ql]); first | done | rfl | (simp only [qm, qn]; rfl)) ?_; (with_reducible refine (image_Write.calls k _ _ t232 t228 _ _ y235 t238 t239 _ ?side1 ?side2 ?side3 ?side4 A4.out).mono ?_); (case side1 => exact zc (Kd.R_reads' HO234.out).2.2); (case side2 => exact (Kd.R_reads' HO234.out).2.1); (case side3 => exact zc (Kd.R_reads' HO237.out).2.2); (case side4 => exact (Kd.R_reads' HO237.out).2.1); rintro e w26 ⟨v240, rfl, ho0, hb⟩; refine ⟨_, rfl, ?_⟩; have n0_ := za HO226 hb; have n1_ := Aside0.mk (Kd.R_elder' (zr HO231) (Kd.R_base ho0) hb); have n2_ := za HO234 hb; have n3_ := za HO237 hb; have n4_ := Aside0.mk (Kd.R_lower (Kd.R_new' ho0 (Kd.R_lt (zr HO231))) (below_size (zB HB))); have n5_ := zb HB hb; clear HO226; clear HO231; clear HO234; clear HO237; clear HB; have HO226 := n0_; have HO231 := n1_; have HO234 := n2_; have HO237 := n3_; have HO241 := n4_; have HB := n5_; clear n0_ n1_ n2_ n3_ n4_ n5_; (try clear hb); (try clear ho0); obtain ⟨Ao27, co27, eo27⟩ := Kd.R_slice HO241.out; subst eo27) | ((with_reducible refine gate_callee (f := 34) rfl ?_); refine goesL_ (some 28) rfl rfl Try.func34 (by kernel_rfl) rfl #[.slice Ao24 t232.length co24, .slice Ao27 t238.length co27] rfl (by (try simp only [qj, qk, ql]); first | done | rfl | (simp only [qm, qn]; rfl)) ?_; (with_reducible refine (darningref4_Apply.calls k _ _ t232 _ _ t238 t242 _ ?side1 ?side2 ?side3 ?side4 A5.out).mono ?_); (case side1 => exact zc (Kd.R_reads' HO234.out).2.2); (case side2 => exact (Kd.R_reads' HO234.out).2.1); (case side3 => exact zc (Kd.R_reads' HO241.out).2.2); (case side4 => exact (Kd.R_reads' HO241.out).2.1); rintro e w28 ⟨v243, rfl, ho0, hb⟩; refine ⟨_, rfl, ?_⟩; have n0_ := Aside0.mk (Kd.R_elder' (zr HO226) (Kd.R_base ho0) hb); have n1_ := za HO231 hb; have n2_ := Aside0.mk (Kd.R_elder' (zr HO234) (Kd.R_base ho0) hb); have n3_ := za HO237 hb; have n4_ := za HO241 hb; have n5_ := Aside0.mk (Kd.R_lower (Kd.R_new' (Kd.R_new' ho0 (Kd.R_lt (zr HO226))) (Kd.R_lt (zr HO234))) (below_size (zB HB))); have n6_ := zb HB hb; clear HO226; clear HO231; clear HO234; clear HO237; clear HO241; clear HB; have HO226 := n0_; have HO231 := n1_; have HO234 := n2_; have HO237 := n3_; have HO241 := n4_; have HO244 := n5_; have HB := n6_; clear n0_ n1_ n2_ n3_ n4_ n5_ n6_; (try clear hb); (try clear ho0); obtain ⟨Ao29, co29, eo29⟩ := Kd.R_slice HO244.out; subst eo29) | ((with_reducible refine gate_callee (f := 48) rfl ?_); refine goesL_ (some 32) rfl rfl Try.func48 (by kernel_rfl) rfl #[.slice Ao29 t242.length co29, .int .i64 t228, .int .i64 2] rfl (by (try simp only [qj, qk, ql]); first | done | rfl | (simp only [qm, qn]; rfl)) ?_; (with_reducible refine (image_Read.calls k _ _ t242 t228 2 t245 t246 _ ?side1 ?side2 A6.out).mono ?_); (case side1 => exact zc (Kd.R_reads' HO244.out).2.2); (case side2 => exact (Kd.R_reads' HO244.out).2.1); rintro e w30 ⟨v247, rfl, ho0, hb⟩; refine ⟨_, rfl, ?_⟩; have n0_ := za HO226 hb; have n1_ := za HO231 hb; have n2_ := za HO234 hb; have n3_ := Aside0.mk (Kd.R_elder' (zr HO237) (Kd.R_base ho0) hb); have n4_ := za HO241 hb; have n5_ := za HO244 hb; have n6_ := Aside0.mk (Kd.R_lower (Kd.R_new' ho0 (Kd.R_lt (zr HO237))) (below_size (zB HB))); have n7_ := zb HB hb; clear HO226; clear HO231; clear HO234; clear HO237; clear HO241; clear HO244; clear HB; have HO226 := n0_; have HO231 := n1_; have HO234 := n2_; have HO237 := n3_; have HO241 := n4_; have HO244 := n5_; have HO248 := n6_; have HB := n7_; clear n0_ n1_ n2_ n3_ n4_ n5_ n6_ n7_; (try clear hb); (try clear ho0); have hcv31 := own_string (P := Try.prog) Try.underlying63 Try.underlying5 Try.underlying9 (Kd.own_of_R HO248.out)) | (go_at_call 43; (with_reducible refine (image_Is.calls k _ _ t242 8 true _ ?side1 ?side2 A12.out).mono ?_); (case side1 => exact zc (Kd.R_reads' HO244.out).2.2); (case side2 => exact (Kd.R_reads' HO244.out).2.1); rintro e w32 ⟨rfl, hb⟩; have n0_ := za HO226 hb; have n1_ := za HO231 hb; have n2_ := za HO234 hb; have n3_ := za HO237 hb; have n4_ := za HO241 hb; have n5_ := za HO244 hb; have n6_ := za HO248 hb; have n7_ := zb HB hb; replace HO226 := n0_; replace HO231 := n1_; replace HO234 := n2_; replace HO237 := n3_; replace HO241 := n4_; replace HO244 := n5_; replace HO248 := n6_; replace HB := n7_; clear n0_ n1_ n2_ n3_ n4_ n5_ n6_ n7_; (try clear hb)) | (go_at_call 42; (with_reducible refine (image_Holds.calls k _ _ t242 8 8 true _ ?side1 ?side2 A14.out).mono ?_); (case side1 => exact zc (Kd.R_reads' HO244.out).2.2); (case side2 => exact (Kd.R_reads' HO244.out).2.1); rintro e w33 ⟨rfl, hb⟩; have n0_ := za HO226 hb; have n1_ := za HO231 hb; have n2_ := za HO234 hb; have n3_ := za HO237 hb; have n4_ := za HO241 hb; have n5_ := za HO244 hb; have n6_ := za HO248 hb; have n7_ := zb HB hb; replace HO226 := n0_; replace HO231 := n1_; replace HO234 := n2_; replace HO237 := n3_; replace HO241 := n4_; replace HO244 := n5_; replace HO248 := n6_; replace HB := n7_; clear n0_ n1_ n2_ n3_ n4_ n5_ n6_ n7_; (try clear hb)) | (go_at_call 42; (with_reducible refine (image_Holds.calls k _ _ t242 8 9 false _ ?side1 ?side2 A16.out).mono ?_); (case side1 => exact zc (Kd.R_reads' HO244.out).2.2); (case side2 => exact (Kd.R_reads' HO244.out).2.1); rintro e w34 ⟨rfl, hb⟩; have n0_ := za HO226 hb; have n1_ := za HO231 hb; have n2_ := za HO234 hb; have n3_ := za HO237 hb; have n4_ := za HO241 hb; have n5_ := za HO244 hb; have n6_ := za HO248 hb; have n7_ := zb HB hb; replace HO226 := n0_; replace HO231 := n1_; replace HO234 := n2_; replace HO237 := n3_; replace HO241 := n4_; replace HO244 := n5_; replace HO248 := n6_; replace HB := n7_; clear n0_ n1_ n2_ n3_ n4_ n5_ n6_ n7_; (try clear hb)))
 go_ret
 exact ⟨by first | rfl | (rw [HRA_.out]) | (simp only [HRA_.out]; done) | (simp only [← HRA_.out]; done) | (have HR_ := HRA_.out; simp_all) | (simp [errW_none, errW_some] <;> rfl) | (simp [*, errW_none, errW_some] <;> rfl), zB HB⟩

/-! ### darningref4_MaySize: function 62 -/
def darningref4_MaySize.f (a0 : Int) : Option (Bool) := if a0 ≥ 2 then (some (decide (a0 ≤ 512))) else (some false)
set_option maxHeartbeats 8000000 in
set_option maxRecDepth 100000 in
theorem darningref4_MaySize.calls (a0 : Int) (r : Bool) (w : World) (h : darningref4_MaySize.f a0 = some r) :
  Calls Try.prog 62 #[.int .i64 a0] w fun e w' => e = .returned (.bool r) ∧ Drawn0 w w' := by
 have H : (if a0 ≥ 2 then (some (decide (a0 ≤ 512))) else (some false)) = some r := h
 clear h
 by_cases c2 : a0 ≥ 2
 ·
  rw [if_pos c2] at H
  have c2b0 : decide (2 ≤ a0) = true := decide_eq_true c2
  clear c2
  obtain rfl := Option.some.inj H
  go_enter Try.func62, Try.ntmps62
  go_wp2
  go_ret
  exact ⟨by first | rfl | (simp; done) | (simp [*]; done), by repeat (first | exact Drawn0.refl _ | apply Drawn0.step)⟩
 rw [if_neg c2] at H
 have c2b0 : decide (2 ≤ a0) = false := decide_eq_false c2
 clear c2
 obtain rfl := Option.some.inj H
 go_enter Try.func62, Try.ntmps62
 go_wp2
 go_ret
 exact ⟨by first | rfl | (simp; done) | (simp [*]; done), by repeat (first | exact Drawn0.refl _ | apply Drawn0.step)⟩

/-! ### darningref4_Word: function 20 -/
def darningref4_Word.f (a0 : Int) (a1 : Bool) : Option (Int) := (darningref4_MaySize.f a0).bind fun t252 => (if t252 = true then (if a1 = true then (some (Go.bits .or .u64 (IntKind.u64.wrap ((IntKind.u64.wrap (a0)) * 2)) 1)) else (some (IntKind.u64.wrap ((IntKind.u64.wrap (a0)) * 2)))) else (some 0))
set_option maxHeartbeats 8000000 in
set_option maxRecDepth 100000 in
theorem darningref4_Word.calls (a0 : Int) (a1 : Bool) (r : Int) (w : World) (h : darningref4_Word.f a0 a1 = some r) :
  Calls Try.prog 20 #[.int .i64 a0, .bool a1] w fun e w' => e = .returned (.int .u64 r) ∧ Drawn0 w w' := by
 have H : ((darningref4_MaySize.f a0).bind fun t252 => (if t252 = true then (if a1 = true then (some (Go.bits .or .u64 (IntKind.u64.wrap ((IntKind.u64.wrap (a0)) * 2)) 1)) else (some (IntKind.u64.wrap ((IntKind.u64.wrap (a0)) * 2)))) else (some 0))) = some r := h
 clear h
 replace H := Option.bind_eq_some_iff.mp H
 obtain ⟨t252, A30, H⟩ := H
 replace H : (if t252 = true then (if a1 = true then (some (Go.bits .or .u64 (IntKind.u64.wrap ((IntKind.u64.wrap (a0)) * 2)) 1)) else (some (IntKind.u64.wrap ((IntKind.u64.wrap (a0)) * 2)))) else (some 0)) = some r := H
 have A3 := Aside0.mk A30
 clear A30
 by_cases c4 : t252 = true
 rotate_left
 ·
  replace c4 := Bool.eq_false_iff.mpr c4
  subst c4
  have H1 : (some 0) = some r := by rw [if_neg (show ¬ (false = true) by decide)] at H; exact H
  clear H
  have H := H1
  clear H1
  obtain rfl := Option.some.inj H
  go_enter Try.func20, Try.ntmps20
  go_wp2_with (first | ((with_reducible refine gate_callee (f := 62) rfl ?_); refine goesL_ (some 7) rfl rfl Try.func62 (by kernel_rfl) rfl #[.int .i64 a0] rfl (by (try simp only [qj, qk, ql]); first | done | rfl | (simp only [qm, qn]; rfl)) ?_; (with_reducible refine (darningref4_MaySize.calls a0 false _ A3.out).mono ?_); rintro e w' ⟨rfl, ⟨nd, rfl⟩⟩; refine ⟨_, rfl, ?_⟩))
  go_ret
  exact ⟨by first | rfl | (simp; done) | (simp [*]; done), by repeat (first | exact Drawn0.refl _ | apply Drawn0.step)⟩
 subst c4
 have H1 : (if a1 = true then (some (Go.bits .or .u64 (IntKind.u64.wrap ((IntKind.u64.wrap (a0)) * 2)) 1)) else (some (IntKind.u64.wrap ((IntKind.u64.wrap (a0)) * 2)))) = some r := by rw [if_pos rfl] at H; exact H
 clear H
 have H := H1
 clear H1
 by_cases c5 : a1 = true
 ·
  subst c5
  have H1 : (some (Go.bits .or .u64 (IntKind.u64.wrap ((IntKind.u64.wrap (a0)) * 2)) 1)) = some r := by rw [if_pos rfl] at H; exact H
  clear H
  have H := H1
  clear H1
  obtain rfl := Option.some.inj H
  go_enter Try.func20, Try.ntmps20
  go_wp2_with (first | ((with_reducible refine gate_callee (f := 62) rfl ?_); refine goesL_ (some 7) rfl rfl Try.func62 (by kernel_rfl) rfl #[.int .i64 a0] rfl (by (try simp only [qj, qk, ql]); first | done | rfl | (simp only [qm, qn]; rfl)) ?_; (with_reducible refine (darningref4_MaySize.calls a0 true _ A3.out).mono ?_); rintro e w' ⟨rfl, ⟨nd, rfl⟩⟩; refine ⟨_, rfl, ?_⟩))
  go_ret
  exact ⟨by first | rfl | (simp; done) | (simp [*]; done), by repeat (first | exact Drawn0.refl _ | apply Drawn0.step)⟩
 replace c5 := Bool.eq_false_iff.mpr c5
 subst c5
 have H1 : (some (IntKind.u64.wrap ((IntKind.u64.wrap (a0)) * 2))) = some r := by rw [if_neg (show ¬ (false = true) by decide)] at H; exact H
 clear H
 have H := H1
 clear H1
 obtain rfl := Option.some.inj H
 go_enter Try.func20, Try.ntmps20
 go_wp2_with (first | ((with_reducible refine gate_callee (f := 62) rfl ?_); refine goesL_ (some 7) rfl rfl Try.func62 (by kernel_rfl) rfl #[.int .i64 a0] rfl (by (try simp only [qj, qk, ql]); first | done | rfl | (simp only [qm, qn]; rfl)) ?_; (with_reducible refine (darningref4_MaySize.calls a0 true _ A3.out).mono ?_); rintro e w' ⟨rfl, ⟨nd, rfl⟩⟩; refine ⟨_, rfl, ?_⟩))
 go_ret
 exact ⟨by first | rfl | (simp; done) | (simp [*]; done), by repeat (first | exact Drawn0.refl _ | apply Drawn0.step)⟩

/-! ### darningref4_mayWords: function 63 -/
def darningref4_mayWords.f (a0 : Int) : Option (Bool) := if a0 ≥ 8 then (if a0 ≤ 512 then (some ((Int.tmod a0 8) == 0)) else (some false)) else (some false)
set_option maxHeartbeats 8000000 in
set_option maxRecDepth 100000 in
theorem darningref4_mayWords.calls (a0 : Int) (r : Bool) (w : World) (h : darningref4_mayWords.f a0 = some r) :
  Calls Try.prog 63 #[.int .i64 a0] w fun e w' => e = .returned (.bool r) ∧ Drawn0 w w' := by
 have H : (if a0 ≥ 8 then (if a0 ≤ 512 then (some ((Int.tmod a0 8) == 0)) else (some false)) else (some false)) = some r := h
 clear h
 by_cases c2 : a0 ≥ 8
 rotate_left
 ·
  rw [if_neg c2] at H
  have c2b0 : decide (8 ≤ a0) = false := decide_eq_false c2
  clear c2
  obtain rfl := Option.some.inj H
  go_enter Try.func63, Try.ntmps63
  go_wp2
  go_ret
  exact ⟨by first | rfl | (simp; done) | (simp [*]; done), by repeat (first | exact Drawn0.refl _ | apply Drawn0.step)⟩
 rw [if_pos c2] at H
 have c2b0 : decide (8 ≤ a0) = true := decide_eq_true c2
 clear c2
 by_cases c3 : a0 ≤ 512
 ·
  rw [if_pos c3] at H
  have c3b0 : decide (a0 ≤ 512) = true := decide_eq_true c3
  clear c3
  obtain rfl := Option.some.inj H
  go_enter Try.func63, Try.ntmps63
  go_wp2
  go_ret
  exact ⟨by first | rfl | (simp; done) | (simp [*]; done), by repeat (first | exact Drawn0.refl _ | apply Drawn0.step)⟩
 rw [if_neg c3] at H
 have c3b0 : decide (a0 ≤ 512) = false := decide_eq_false c3
 clear c3
 obtain rfl := Option.some.inj H
 go_enter Try.func63, Try.ntmps63
 go_wp2
 go_ret
 exact ⟨by first | rfl | (simp; done) | (simp [*]; done), by repeat (first | exact Drawn0.refl _ | apply Drawn0.step)⟩

/-! ### darningref4_MayBlocks: function 21 -/
mutual
def darningref4_MayBlocks.l0 : Nat → List (S35) → Int → Int → List (S35) → Int → Int → Option (Bool)
 | 0, _, _, _, _, _, _ => none
 | k + 1, x0, x1, x5, x11, x12, x13 => if x13 < x12 then (if 0 ≤ x13 then (if x13 < (x11.length : Int) then (if ((rd_T35 x11 x13).f0) = x5 then ((darningref4_MaySize.f ((rd_T35 x11 x13).f1)).bind fun t256 => (if t256 = true then (if ((rd_T35 x11 x13).f1) > (wrap64 (x1 - x5)) then (darningref4_MayBlocks.j1 k x0 x1 x5 x11 x12 x13 true ((rd_T35 x11 x13).f0) ((rd_T35 x11 x13).f1) ((rd_T35 x11 x13).f2)) else (if x13 > 0 then (if ((rd_T35 x11 x13).f2 = true) then (darningref4_MayBlocks.j1 k x0 x1 x5 x11 x12 x13 false ((rd_T35 x11 x13).f0) ((rd_T35 x11 x13).f1) ((rd_T35 x11 x13).f2)) else (if 0 ≤ (wrap64 (x13 - 1)) then (if (wrap64 (x13 - 1)) < (x0.length : Int) then (darningref4_MayBlocks.j1 k x0 x1 x5 x11 x12 x13 (!((rd_T35 x0 (wrap64 (x13 - 1))).f2)) ((rd_T35 x11 x13).f0) ((rd_T35 x11 x13).f1) ((rd_T35 x11 x13).f2)) else (none)) else (none))) else (darningref4_MayBlocks.j1 k x0 x1 x5 x11 x12 x13 false ((rd_T35 x11 x13).f0) ((rd_T35 x11 x13).f1) ((rd_T35 x11 x13).f2)))) else (darningref4_MayBlocks.j1 k x0 x1 x5 x11 x12 x13 true ((rd_T35 x11 x13).f0) ((rd_T35 x11 x13).f1) ((rd_T35 x11 x13).f2)))) else (darningref4_MayBlocks.j1 k x0 x1 x5 x11 x12 x13 true ((rd_T35 x11 x13).f0) ((rd_T35 x11 x13).f1) ((rd_T35 x11 x13).f2))) else (none)) else (none)) else (some (x5 == x1))
def darningref4_MayBlocks.j1 : Nat → List (S35) → Int → Int → List (S35) → Int → Int → Bool → Int → Int → Bool → Option (Bool)
 | 0, _, _, _, _, _, _, _, _, _, _ => none
 | k + 1, x0, x1, x5, x11, x12, x13, x53, x256000, x256001, x256002 => if x53 = true then (some false) else (darningref4_MayBlocks.l0 k x0 x1 (wrap64 (x5 + x256001)) x11 x12 (wrap64 (x13 + 1)))
end
def darningref4_MayBlocks.f (k : Nat) (l0 : List (S35)) (a1 : Int) : Option (Bool) := (darningref4_mayWords.f a1).bind fun t253 => (if t253 = true then (darningref4_MayBlocks.l0 k l0 a1 0 l0 (l0.length : Int) 0) else (some false))
theorem darningref4_MayBlocks.mono_l : ∀ k, (∀ y0 y1 y2 y3 y4 y5, LeO (darningref4_MayBlocks.l0 k y0 y1 y2 y3 y4 y5) (darningref4_MayBlocks.l0 (k + 1) y0 y1 y2 y3 y4 y5)) ∧ (∀ y0 y1 y2 y3 y4 y5 y6 y7 y8 y9, LeO (darningref4_MayBlocks.j1 k y0 y1 y2 y3 y4 y5 y6 y7 y8 y9) (darningref4_MayBlocks.j1 (k + 1) y0 y1 y2 y3 y4 y5 y6 y7 y8 y9))
 | 0 => ⟨fun _ _ _ _ _ _ r h => by simp [darningref4_MayBlocks.l0] at h, fun _ _ _ _ _ _ _ _ _ _ r h => by simp [darningref4_MayBlocks.j1] at h⟩
 | k + 1 => by
  obtain ⟨ih0, ih1⟩ := darningref4_MayBlocks.mono_l k
  refine ⟨?_, ?_⟩
  ·
   intro y0 y1 y2 y3 y4 y5
   unfold darningref4_MayBlocks.l0
   repeat' first
   | (with_reducible exact ih0 _ _ _ _ _ _)
   | (with_reducible exact ih1 _ _ _ _ _ _ _ _ _ _)
   | (with_reducible exact LeO.refl _)
   | (with_reducible exact LeO.none _)
   | (with_reducible refine LeO.ite ?_ ?_)
   | (with_reducible refine LeO.bind ?_ (fun _ => ?_))
   | exact ih0 _ _ _ _ _ _
   | exact ih1 _ _ _ _ _ _ _ _ _ _
   | exact LeO.none _
   | refine LeO.ite ?_ ?_
   | refine LeO.bind ?_ (fun _ => ?_)
  ·
   intro y0 y1 y2 y3 y4 y5 y6 y7 y8 y9
   unfold darningref4_MayBlocks.j1
   repeat' first
   | (with_reducible exact ih0 _ _ _ _ _ _)
   | (with_reducible exact ih1 _ _ _ _ _ _ _ _ _ _)
   | (with_reducible exact LeO.refl _)
   | (with_reducible exact LeO.none _)
   | (with_reducible refine LeO.ite ?_ ?_)
   | (with_reducible refine LeO.bind ?_ (fun _ => ?_))
   | exact ih0 _ _ _ _ _ _
   | exact ih1 _ _ _ _ _ _ _ _ _ _
   | exact LeO.none _
   | refine LeO.ite ?_ ?_
   | refine LeO.bind ?_ (fun _ => ?_)
theorem darningref4_MayBlocks.mono : ∀ a0 a1 k, LeO (darningref4_MayBlocks.f k a0 a1) (darningref4_MayBlocks.f (k + 1) a0 a1) := by
 intro a0 a1 k
 obtain ⟨ih0, ih1⟩ := darningref4_MayBlocks.mono_l k
 unfold darningref4_MayBlocks.f
 repeat' first
   | (with_reducible exact ih0 _ _ _ _ _ _)
   | (with_reducible exact ih1 _ _ _ _ _ _ _ _ _ _)
   | (with_reducible exact LeO.refl _)
   | (with_reducible exact LeO.none _)
   | (with_reducible refine LeO.ite ?_ ?_)
   | (with_reducible refine LeO.bind ?_ (fun _ => ?_))
   | exact ih0 _ _ _ _ _ _
   | exact ih1 _ _ _ _ _ _ _ _ _ _
   | exact LeO.none _
   | refine LeO.ite ?_ ?_
   | refine LeO.bind ?_ (fun _ => ?_)
set_option maxHeartbeats 8000000 in
set_option maxRecDepth 100000 in
theorem darningref4_MayBlocks.calls (k : Nat) (A0 : Option Addr) (c0 : Nat) (l0 : List (S35)) (a1 : Int) (r : Bool) (w : World) (hr0 : Kd.C k35 w A0 l0.length l0) (hc0 : l0.length ≤ c0) (h : darningref4_MayBlocks.f k l0 a1 = some r) :
  Calls Try.prog 21 #[.slice A0 l0.length c0, .int .i64 a1] w fun e w' => e = .returned (.bool r) ∧ Below w.heap.size w w' := by
 have hu35 := Try.underlying35
 have HR0 := Aside0.mk hr0
 have HC0 := Aside0.mk hc0
 clear hr0 hc0
 have HB := Aside0.mk (Below.refl w.heap.size w)
 have H : ((darningref4_mayWords.f a1).bind fun t253 => (if t253 = true then (darningref4_MayBlocks.l0 k l0 a1 0 l0 (l0.length : Int) 0) else (some false))) = some r := h
 clear h
 replace H := Option.bind_eq_some_iff.mp H
 obtain ⟨t253, A30, H⟩ := H
 replace H : (if t253 = true then (darningref4_MayBlocks.l0 k l0 a1 0 l0 (l0.length : Int) 0) else (some false)) = some r := H
 have A3 := Aside0.mk A30
 clear A30
 by_cases c4 : t253 = true
 rotate_left
 ·
  replace c4 := Bool.eq_false_iff.mpr c4
  subst c4
  have H1 : (some false) = some r := by rw [if_neg (show ¬ (false = true) by decide)] at H; exact H
  clear H
  have H := H1
  clear H1
  obtain rfl := Option.some.inj H
  go_enter Try.func21, Try.ntmps21
  go_wp2_with (first | ((with_reducible refine gate_callee (f := 63) rfl ?_); refine goesL_ (some 9) rfl rfl Try.func63 (by kernel_rfl) rfl #[.int .i64 a1] rfl (by (try simp only [qj, qk, ql]); first | done | rfl | (simp only [qm, qn]; rfl)) ?_; (with_reducible refine (darningref4_mayWords.calls a1 false _ A3.out).mono ?_); rintro e w' ⟨rfl, ⟨nd, rfl⟩⟩; refine ⟨_, rfl, ?_⟩))
  go_ret
  exact ⟨by first | rfl | (simp [errW_none, errW_some] <;> rfl) | (simp [*, errW_none, errW_some] <;> rfl), zB HB⟩
 subst c4
 have H1 : (darningref4_MayBlocks.l0 k l0 a1 0 l0 (l0.length : Int) 0) = some r := by rw [if_pos rfl] at H; exact H
 clear H
 have H := H1
 clear H1
 have H' := Aside0.mk H
 clear H
 go_enter Try.func21, Try.ntmps21
 go_wp2_with (first | ((with_reducible refine gate_callee (f := 63) rfl ?_); refine goesL_ (some 9) rfl rfl Try.func63 (by kernel_rfl) rfl #[.int .i64 a1] rfl (by (try simp only [qj, qk, ql]); first | done | rfl | (simp only [qm, qn]; rfl)) ?_; (with_reducible refine (darningref4_mayWords.calls a1 true _ A3.out).mono ?_); rintro e w' ⟨rfl, ⟨nd, rfl⟩⟩; refine ⟨_, rfl, ?_⟩))
 go_loopg [5, 13] k (fun kq v5 v13 w' => ∃ (x5_1 : Int) (x13_1 : Int), v5 = .int .i64 x5_1 ∧ v13 = .int .i64 x13_1 ∧ Aside0 (darningref4_MayBlocks.l0 kq l0 a1 x5_1 l0 (l0.length : Int) x13_1 = some r) ∧ Aside0 (kq ≤ k) ∧ Aside0 (Below w.heap.size w w'))
 case atStart => exact ⟨(0), (0), (by first | rfl | (simp; done) | (simp [*]; done)), (by first | rfl | (simp; done) | (simp [*]; done)), H', ⟨Nat.le_refl _⟩, ⟨zB HB⟩⟩
 case round =>
  clear H'
  try clear c2
  try clear p2
  try clear c4
  obtain ⟨x5_1, x13_1, rfl, rfl, HA, HK1, HB⟩ := hrel
  cases gk with
  | zero => exact absurd HA.out (by simp [darningref4_MayBlocks.l0])
  | succ k1 =>
   have H := HA.out
   clear HA
   simp only [darningref4_MayBlocks.l0] at H
   by_cases c5 : x13_1 < (l0.length : Int)
   rotate_left
   ·
    rw [if_neg c5] at H
    have c5b0 : decide (x13_1 < (l0.length : Int)) = false := decide_eq_false c5
    clear c5
    obtain rfl := Option.some.inj H
    go_wp2
    go_ret
    exact ⟨by first | rfl | (simp [errW_none, errW_some] <;> rfl) | (simp [*, errW_none, errW_some] <;> rfl), zB HB⟩
   rw [if_pos c5] at H
   have c5b0 : decide (x13_1 < (l0.length : Int)) = true := decide_eq_true c5
   clear c5
   by_cases c6 : 0 ≤ x13_1
   rotate_left
   ·
    rw [if_neg c6] at H
    exact absurd H (by simp)
   rw [if_pos c6] at H
   have c6b0 : decide (0 ≤ x13_1) = true := decide_eq_true c6
   clear c6
   by_cases c7 : x13_1 < (l0.length : Int)
   rotate_left
   ·
    rw [if_neg c7] at H
    exact absurd H (by simp)
   rw [if_pos c7] at H
   have c7b0 : decide (x13_1 < (l0.length : Int)) = true := decide_eq_true c7
   clear c7
   have HC8 := Aside0.mk H
   clear H
   have p254 : 0 ≤ (x13_1 : Int) := zu
   have q254 : x13_1 < (l0.length : Int) := zu
   obtain ⟨ad254, e254, hx254_0, hx254_1, hx254_2⟩ := at_T35 HR0.out x13_1 p254 q254
   cases e254
   replace hx254_0 := zw HB hx254_0
   replace hx254_1 := zw HB hx254_1
   replace hx254_2 := zw HB hx254_2
   replace p254 := eq_true p254
   replace q254 := eq_true q254
   go_upto_region 7 with (first | ((with_reducible refine gate_dst (N := 7) rfl ?_); refine box_event ?hg (N := 7) ?hd (cs := #[.int .i64 0, .int .i64 0, .bool false]) (t := 35) ?hr ?_; (case hd => rfl); (case hg => rfl); (case hr => first | (go_simp; done) | (go_simp; rfl)); intro gb255 hg w9 hbox hb; have n0_ := zb HB hb; have n1_ := Aside0.mk (hbox); have n2_ := Aside0.mk ((by rw [hg]; exact (below_size (zB HB)) : w.heap.size ≤ gb255)); have n3_ := Aside0.mk ((by rw [hg]; exact (below_size (zB HB)) : w.heap.size ≤ gb255)); clear HB; have HB := n0_; have BK255 := n1_; have GW255 := n2_; have GE255 := n3_; clear n0_ n1_ n2_ n3_; clear hb hbox hg; have hcz10_0 : w9.cell? ⟨gb255, 0, none⟩ = some (.int .i64 0) := (blk_cell BK255.out 0).trans rfl; have hcz10_1 : w9.cell? ⟨gb255, 1, none⟩ = some (.int .i64 0) := (blk_cell BK255.out 1).trans rfl; have hcz10_2 : w9.cell? ⟨gb255, 2, none⟩ = some (.bool false) := (blk_cell BK255.out 2).trans rfl; have hfz10_0 := blk_frozen BK255.out 0; have hfz10_1 := blk_frozen BK255.out 1; have hfz10_2 := blk_frozen BK255.out 2))
   (try simp only [Act.put, qg, qh, qi])
   go_cut [53] (fun v53 wc => ∃ (kq : Nat) (x53_7 : Bool), v53 = .bool x53_7 ∧ Aside0 (darningref4_MayBlocks.j1 kq l0 a1 x5_1 l0 (l0.length : Int) x13_1 x53_7 ((rd_T35 l0 x13_1).f0) ((rd_T35 l0 x13_1).f1) ((rd_T35 l0 x13_1).f2) = some r) ∧ Aside0 (kq ≤ k1) ∧ Aside0 (wc.heap[gb255]? = some (.cells #[.int .i64 ((rd_T35 l0 x13_1).f0), .int .i64 ((rd_T35 l0 x13_1).f1), .bool ((rd_T35 l0 x13_1).f2)] 35 (0, 0))) ∧ Aside0 (Below w.heap.size w wc))
   case first =>
    have H := HC8.out
    clear HC8
    by_cases c11 : ((rd_T35 l0 x13_1).f0) = x5_1
    rotate_left
    ·
     rw [if_neg c11] at H
     have c11b0 : (((rd_T35 l0 x13_1).f0) == x5_1) = false := beq_eq_false_iff_ne.mpr c11
     have c11b1 : (((rd_T35 l0 x13_1).f0) != x5_1) = true := bne_iff_ne.mpr c11
     (first | rw [c11b0] | (simp only [i64_w, i32_w]; rw [c11b0]) | skip)
     have H' := Aside0.mk H
     clear H
     have hcz26_0 : w9.cell? ⟨gb255, 0, none⟩ = some (.int .i64 0) := (blk_cell BK255.out 0).trans rfl
     have hcz26_1 : w9.cell? ⟨gb255, 1, none⟩ = some (.int .i64 0) := (blk_cell BK255.out 1).trans rfl
     have hcz26_2 : w9.cell? ⟨gb255, 2, none⟩ = some (.bool false) := (blk_cell BK255.out 2).trans rfl
     have hfz26_0 := blk_frozen BK255.out 0
     have hfz26_1 := blk_frozen BK255.out 1
     have hfz26_2 := blk_frozen BK255.out 2
     go_wp2
     go_meet
     case rel => exact ⟨_, (true), (by first | rfl | (simp; done) | (simp [*]; done)), (by first | exact H' | ((try rw [hji20]); exact H')), ⟨by have := HK1.out; first | omega | exact Nat.le_refl _⟩, ⟨by (with_reducible repeat (first | refine blk_drewN ?_ _ | refine blk_drew ?_ | refine blk_alloc ?_ _)); refine blk_put (cs := #[.int .i64 ((rd_T35 l0 x13_1).f0), .int .i64 ((rd_T35 l0 x13_1).f1), .bool false]) ?_ 2 _ rfl; (with_reducible repeat (first | refine blk_drewN ?_ _ | refine blk_drew ?_ | refine blk_alloc ?_ _)); refine blk_put (cs := #[.int .i64 ((rd_T35 l0 x13_1).f0), .int .i64 0, .bool false]) ?_ 1 _ rfl; (with_reducible repeat (first | refine blk_drewN ?_ _ | refine blk_drew ?_ | refine blk_alloc ?_ _)); refine blk_put (cs := #[.int .i64 0, .int .i64 0, .bool false]) ?_ 0 _ rfl; (with_reducible repeat (first | refine blk_drewN ?_ _ | refine blk_drew ?_ | refine blk_alloc ?_ _)); exact BK255.out⟩, ⟨by repeat (first | (with_reducible first | exact HB.out | apply qd | apply qe | apply qf | refine below_set ?_ GE255.out) | exact HB.out)⟩⟩
    rw [if_pos c11] at H
    have c11b0 : (((rd_T35 l0 x13_1).f0) == x5_1) = true := beq_iff_eq.mpr c11
    have c11b1 : (((rd_T35 l0 x13_1).f0) != x5_1) = false := bne_eq_false_iff_eq.mpr c11
    clear c11
    (first | rw [c11b0] | (simp only [i64_w, i32_w]; rw [c11b0]) | skip)
    replace H := Option.bind_eq_some_iff.mp H
    obtain ⟨t256, A120, H⟩ := H
    replace H : (if t256 = true then (if ((rd_T35 l0 x13_1).f1) > (wrap64 (a1 - x5_1)) then (darningref4_MayBlocks.j1 k1 l0 a1 x5_1 l0 (l0.length : Int) x13_1 true ((rd_T35 l0 x13_1).f0) ((rd_T35 l0 x13_1).f1) ((rd_T35 l0 x13_1).f2)) else (if x13_1 > 0 then (if ((rd_T35 l0 x13_1).f2 = true) then (darningref4_MayBlocks.j1 k1 l0 a1 x5_1 l0 (l0.length : Int) x13_1 false ((rd_T35 l0 x13_1).f0) ((rd_T35 l0 x13_1).f1) ((rd_T35 l0 x13_1).f2)) else (if 0 ≤ (wrap64 (x13_1 - 1)) then (if (wrap64 (x13_1 - 1)) < (l0.length : Int) then (darningref4_MayBlocks.j1 k1 l0 a1 x5_1 l0 (l0.length : Int) x13_1 (!((rd_T35 l0 (wrap64 (x13_1 - 1))).f2)) ((rd_T35 l0 x13_1).f0) ((rd_T35 l0 x13_1).f1) ((rd_T35 l0 x13_1).f2)) else (none)) else (none))) else (darningref4_MayBlocks.j1 k1 l0 a1 x5_1 l0 (l0.length : Int) x13_1 false ((rd_T35 l0 x13_1).f0) ((rd_T35 l0 x13_1).f1) ((rd_T35 l0 x13_1).f2)))) else (darningref4_MayBlocks.j1 k1 l0 a1 x5_1 l0 (l0.length : Int) x13_1 true ((rd_T35 l0 x13_1).f0) ((rd_T35 l0 x13_1).f1) ((rd_T35 l0 x13_1).f2))) = some r := H
    have A12 := Aside0.mk A120
    clear A120
    by_cases c13 : t256 = true
    rotate_left
    ·
     replace c13 := Bool.eq_false_iff.mpr c13
     subst c13
     have H1 : (darningref4_MayBlocks.j1 k1 l0 a1 x5_1 l0 (l0.length : Int) x13_1 true ((rd_T35 l0 x13_1).f0) ((rd_T35 l0 x13_1).f1) ((rd_T35 l0 x13_1).f2)) = some r := by rw [if_neg (show ¬ (false = true) by decide)] at H; exact H
     clear H
     have H := H1
     clear H1
     have H' := Aside0.mk H
     clear H
     have hcz25_0 : w9.cell? ⟨gb255, 0, none⟩ = some (.int .i64 0) := (blk_cell BK255.out 0).trans rfl
     have hcz25_1 : w9.cell? ⟨gb255, 1, none⟩ = some (.int .i64 0) := (blk_cell BK255.out 1).trans rfl
     have hcz25_2 : w9.cell? ⟨gb255, 2, none⟩ = some (.bool false) := (blk_cell BK255.out 2).trans rfl
     have hfz25_0 := blk_frozen BK255.out 0
     have hfz25_1 := blk_frozen BK255.out 1
     have hfz25_2 := blk_frozen BK255.out 2
     go_wp2_with (first | (go_at_call 62; (with_reducible refine (darningref4_MaySize.calls ((rd_T35 l0 x13_1).f1) false _ A12.out).mono ?_); rintro e w' ⟨rfl, ⟨nd, rfl⟩⟩))
     go_meet
     case rel => exact ⟨_, (true), (by first | rfl | (simp; done) | (simp [*]; done)), (by first | exact H' | ((try rw [hji20]); exact H')), ⟨by have := HK1.out; first | omega | exact Nat.le_refl _⟩, ⟨by (with_reducible repeat (first | refine blk_drewN ?_ _ | refine blk_drew ?_ | refine blk_alloc ?_ _)); refine blk_put (cs := #[.int .i64 ((rd_T35 l0 x13_1).f0), .int .i64 ((rd_T35 l0 x13_1).f1), .bool false]) ?_ 2 _ rfl; (with_reducible repeat (first | refine blk_drewN ?_ _ | refine blk_drew ?_ | refine blk_alloc ?_ _)); refine blk_put (cs := #[.int .i64 ((rd_T35 l0 x13_1).f0), .int .i64 0, .bool false]) ?_ 1 _ rfl; (with_reducible repeat (first | refine blk_drewN ?_ _ | refine blk_drew ?_ | refine blk_alloc ?_ _)); refine blk_put (cs := #[.int .i64 0, .int .i64 0, .bool false]) ?_ 0 _ rfl; (with_reducible repeat (first | refine blk_drewN ?_ _ | refine blk_drew ?_ | refine blk_alloc ?_ _)); exact BK255.out⟩, ⟨by repeat (first | (with_reducible first | exact HB.out | apply qd | apply qe | apply qf | refine below_set ?_ GE255.out) | exact HB.out)⟩⟩
    subst c13
    have H1 : (if ((rd_T35 l0 x13_1).f1) > (wrap64 (a1 - x5_1)) then (darningref4_MayBlocks.j1 k1 l0 a1 x5_1 l0 (l0.length : Int) x13_1 true ((rd_T35 l0 x13_1).f0) ((rd_T35 l0 x13_1).f1) ((rd_T35 l0 x13_1).f2)) else (if x13_1 > 0 then (if ((rd_T35 l0 x13_1).f2 = true) then (darningref4_MayBlocks.j1 k1 l0 a1 x5_1 l0 (l0.length : Int) x13_1 false ((rd_T35 l0 x13_1).f0) ((rd_T35 l0 x13_1).f1) ((rd_T35 l0 x13_1).f2)) else (if 0 ≤ (wrap64 (x13_1 - 1)) then (if (wrap64 (x13_1 - 1)) < (l0.length : Int) then (darningref4_MayBlocks.j1 k1 l0 a1 x5_1 l0 (l0.length : Int) x13_1 (!((rd_T35 l0 (wrap64 (x13_1 - 1))).f2)) ((rd_T35 l0 x13_1).f0) ((rd_T35 l0 x13_1).f1) ((rd_T35 l0 x13_1).f2)) else (none)) else (none))) else (darningref4_MayBlocks.j1 k1 l0 a1 x5_1 l0 (l0.length : Int) x13_1 false ((rd_T35 l0 x13_1).f0) ((rd_T35 l0 x13_1).f1) ((rd_T35 l0 x13_1).f2)))) = some r := by rw [if_pos rfl] at H; exact H
    clear H
    have H := H1
    clear H1
    by_cases c14 : ((rd_T35 l0 x13_1).f1) > (wrap64 (a1 - x5_1))
    ·
     rw [if_pos c14] at H
     have c14b0 : decide ((wrap64 (a1 - x5_1)) < ((rd_T35 l0 x13_1).f1)) = true := decide_eq_true c14
     clear c14
     have H' := Aside0.mk H
     clear H
     have hcz15_0 : w9.cell? ⟨gb255, 0, none⟩ = some (.int .i64 0) := (blk_cell BK255.out 0).trans rfl
     have hcz15_1 : w9.cell? ⟨gb255, 1, none⟩ = some (.int .i64 0) := (blk_cell BK255.out 1).trans rfl
     have hcz15_2 : w9.cell? ⟨gb255, 2, none⟩ = some (.bool false) := (blk_cell BK255.out 2).trans rfl
     have hfz15_0 := blk_frozen BK255.out 0
     have hfz15_1 := blk_frozen BK255.out 1
     have hfz15_2 := blk_frozen BK255.out 2
     go_wp2_with (first | (go_at_call 62; (with_reducible refine (darningref4_MaySize.calls ((rd_T35 l0 x13_1).f1) true _ A12.out).mono ?_); rintro e w' ⟨rfl, ⟨nd, rfl⟩⟩))
     go_meet
     case rel => exact ⟨_, (true), (by first | rfl | (simp; done) | (simp [*]; done)), H', ⟨by have := HK1.out; first | omega | exact Nat.le_refl _⟩, ⟨by (with_reducible repeat (first | refine blk_drewN ?_ _ | refine blk_drew ?_ | refine blk_alloc ?_ _)); refine blk_put (cs := #[.int .i64 ((rd_T35 l0 x13_1).f0), .int .i64 ((rd_T35 l0 x13_1).f1), .bool false]) ?_ 2 _ rfl; (with_reducible repeat (first | refine blk_drewN ?_ _ | refine blk_drew ?_ | refine blk_alloc ?_ _)); refine blk_put (cs := #[.int .i64 ((rd_T35 l0 x13_1).f0), .int .i64 0, .bool false]) ?_ 1 _ rfl; (with_reducible repeat (first | refine blk_drewN ?_ _ | refine blk_drew ?_ | refine blk_alloc ?_ _)); refine blk_put (cs := #[.int .i64 0, .int .i64 0, .bool false]) ?_ 0 _ rfl; (with_reducible repeat (first | refine blk_drewN ?_ _ | refine blk_drew ?_ | refine blk_alloc ?_ _)); exact BK255.out⟩, ⟨by repeat (first | (with_reducible first | exact HB.out | apply qd | apply qe | apply qf | refine below_set ?_ GE255.out) | exact HB.out)⟩⟩
    rw [if_neg c14] at H
    have c14b0 : decide ((wrap64 (a1 - x5_1)) < ((rd_T35 l0 x13_1).f1)) = false := decide_eq_false c14
    clear c14
    by_cases c16 : x13_1 > 0
    rotate_left
    ·
     rw [if_neg c16] at H
     have c16b0 : decide (0 < x13_1) = false := decide_eq_false c16
     clear c16
     have H' := Aside0.mk H
     clear H
     have hcz24_0 : w9.cell? ⟨gb255, 0, none⟩ = some (.int .i64 0) := (blk_cell BK255.out 0).trans rfl
     have hcz24_1 : w9.cell? ⟨gb255, 1, none⟩ = some (.int .i64 0) := (blk_cell BK255.out 1).trans rfl
     have hcz24_2 : w9.cell? ⟨gb255, 2, none⟩ = some (.bool false) := (blk_cell BK255.out 2).trans rfl
     have hfz24_0 := blk_frozen BK255.out 0
     have hfz24_1 := blk_frozen BK255.out 1
     have hfz24_2 := blk_frozen BK255.out 2
     go_wp2_with (first | (go_at_call 62; (with_reducible refine (darningref4_MaySize.calls ((rd_T35 l0 x13_1).f1) true _ A12.out).mono ?_); rintro e w' ⟨rfl, ⟨nd, rfl⟩⟩))
     go_meet
     case rel => exact ⟨_, (false), (by first | rfl | (simp; done) | (simp [*]; done)), (by first | exact H' | ((try rw [hji20]); exact H')), ⟨by have := HK1.out; first | omega | exact Nat.le_refl _⟩, ⟨by (with_reducible repeat (first | refine blk_drewN ?_ _ | refine blk_drew ?_ | refine blk_alloc ?_ _)); refine blk_put (cs := #[.int .i64 ((rd_T35 l0 x13_1).f0), .int .i64 ((rd_T35 l0 x13_1).f1), .bool false]) ?_ 2 _ rfl; (with_reducible repeat (first | refine blk_drewN ?_ _ | refine blk_drew ?_ | refine blk_alloc ?_ _)); refine blk_put (cs := #[.int .i64 ((rd_T35 l0 x13_1).f0), .int .i64 0, .bool false]) ?_ 1 _ rfl; (with_reducible repeat (first | refine blk_drewN ?_ _ | refine blk_drew ?_ | refine blk_alloc ?_ _)); refine blk_put (cs := #[.int .i64 0, .int .i64 0, .bool false]) ?_ 0 _ rfl; (with_reducible repeat (first | refine blk_drewN ?_ _ | refine blk_drew ?_ | refine blk_alloc ?_ _)); exact BK255.out⟩, ⟨by repeat (first | (with_reducible first | exact HB.out | apply qd | apply qe | apply qf | refine below_set ?_ GE255.out) | exact HB.out)⟩⟩
    rw [if_pos c16] at H
    have c16b0 : decide (0 < x13_1) = true := decide_eq_true c16
    clear c16
    first | (generalize hbq17 : (rd_T35 l0 x13_1).f2 = bq17 at *; replace hbq17 := hbq17.symm) | (obtain ⟨bq17, hbq17⟩ : ∃ b_ : Bool, b_ = ((rd_T35 l0 x13_1).f2) := ⟨_, rfl⟩)
    replace H : (if (bq17 = true) then (darningref4_MayBlocks.j1 k1 l0 a1 x5_1 l0 (l0.length : Int) x13_1 false ((rd_T35 l0 x13_1).f0) ((rd_T35 l0 x13_1).f1) bq17) else (if 0 ≤ (wrap64 (x13_1 - 1)) then (if (wrap64 (x13_1 - 1)) < (l0.length : Int) then (darningref4_MayBlocks.j1 k1 l0 a1 x5_1 l0 (l0.length : Int) x13_1 (!((rd_T35 l0 (wrap64 (x13_1 - 1))).f2)) ((rd_T35 l0 x13_1).f0) ((rd_T35 l0 x13_1).f1) bq17) else (none)) else (none))) = some r := by first | exact H | (rw [← hbq17] at H; exact H)
    have Nbq17 := Aside0.mk hbq17
    clear hbq17
    (try rw [← Nbq17.out])
    by_cases c18 : (bq17 = true)
    ·
     subst c18
     have H1 : (darningref4_MayBlocks.j1 k1 l0 a1 x5_1 l0 (l0.length : Int) x13_1 false ((rd_T35 l0 x13_1).f0) ((rd_T35 l0 x13_1).f1) true) = some r := by rw [if_pos rfl] at H; exact H
     clear H
     have H := H1
     clear H1
     have H' := Aside0.mk H
     clear H
     have hcz19_0 : w9.cell? ⟨gb255, 0, none⟩ = some (.int .i64 0) := (blk_cell BK255.out 0).trans rfl
     have hcz19_1 : w9.cell? ⟨gb255, 1, none⟩ = some (.int .i64 0) := (blk_cell BK255.out 1).trans rfl
     have hcz19_2 : w9.cell? ⟨gb255, 2, none⟩ = some (.bool false) := (blk_cell BK255.out 2).trans rfl
     have hfz19_0 := blk_frozen BK255.out 0
     have hfz19_1 := blk_frozen BK255.out 1
     have hfz19_2 := blk_frozen BK255.out 2
     go_wp2_with (first | (go_at_call 62; (with_reducible refine (darningref4_MaySize.calls ((rd_T35 l0 x13_1).f1) true _ A12.out).mono ?_); rintro e w' ⟨rfl, ⟨nd, rfl⟩⟩))
     go_meet
     case rel => (try simp only [← Nbq17.out]); exact ⟨_, (false), (by first | rfl | (simp; done) | (simp [*]; done)), H', ⟨by have := HK1.out; first | omega | exact Nat.le_refl _⟩, ⟨by (with_reducible repeat (first | refine blk_drewN ?_ _ | refine blk_drew ?_ | refine blk_alloc ?_ _)); refine blk_put (cs := #[.int .i64 ((rd_T35 l0 x13_1).f0), .int .i64 ((rd_T35 l0 x13_1).f1), .bool false]) ?_ 2 _ rfl; (with_reducible repeat (first | refine blk_drewN ?_ _ | refine blk_drew ?_ | refine blk_alloc ?_ _)); refine blk_put (cs := #[.int .i64 ((rd_T35 l0 x13_1).f0), .int .i64 0, .bool false]) ?_ 1 _ rfl; (with_reducible repeat (first | refine blk_drewN ?_ _ | refine blk_drew ?_ | refine blk_alloc ?_ _)); refine blk_put (cs := #[.int .i64 0, .int .i64 0, .bool false]) ?_ 0 _ rfl; (with_reducible repeat (first | refine blk_drewN ?_ _ | refine blk_drew ?_ | refine blk_alloc ?_ _)); exact BK255.out⟩, ⟨by repeat (first | (with_reducible first | exact HB.out | apply qd | apply qe | apply qf | refine below_set ?_ GE255.out) | exact HB.out)⟩⟩
    replace c18 := Bool.eq_false_iff.mpr c18
    subst c18
    have H1 : (if 0 ≤ (wrap64 (x13_1 - 1)) then (if (wrap64 (x13_1 - 1)) < (l0.length : Int) then (darningref4_MayBlocks.j1 k1 l0 a1 x5_1 l0 (l0.length : Int) x13_1 (!((rd_T35 l0 (wrap64 (x13_1 - 1))).f2)) ((rd_T35 l0 x13_1).f0) ((rd_T35 l0 x13_1).f1) false) else (none)) else (none)) = some r := by rw [if_neg (show ¬ (false = true) by decide)] at H; exact H
    clear H
    have H := H1
    clear H1
    obtain ⟨ji20, hji20⟩ : ∃ j_ : Int, (wrap64 (x13_1 - 1)) = j_ := ⟨_, rfl⟩
    replace H : (if 0 ≤ (ji20) then (if (ji20) < (l0.length : Int) then (darningref4_MayBlocks.j1 k1 l0 a1 x5_1 l0 (l0.length : Int) x13_1 (!((rd_T35 l0 (ji20)).f2)) ((rd_T35 l0 x13_1).f0) ((rd_T35 l0 x13_1).f1) false) else (none)) else (none)) = some r := by first | (rw [hji20] at H; exact H) | (simp only [hji20] at H ⊢; exact H)
    (try rw [hji20] at A12)
    have hji20w : (IntKind.i64.wrap (x13_1 - 1)) = ji20 := (i64_w _).trans hji20
    by_cases c21 : 0 ≤ (ji20)
    rotate_left
    ·
     rw [if_neg c21] at H
     exact absurd H (by simp)
    rw [if_pos c21] at H
    have c21b0 : decide (0 ≤ (ji20)) = true := decide_eq_true c21
    clear c21
    by_cases c22 : (ji20) < (l0.length : Int)
    rotate_left
    ·
     rw [if_neg c22] at H
     exact absurd H (by simp)
    rw [if_pos c22] at H
    have c22b0 : decide ((ji20) < (l0.length : Int)) = true := decide_eq_true c22
    clear c22
    have H' := Aside0.mk H
    clear H
    have hcz23_0 : w9.cell? ⟨gb255, 0, none⟩ = some (.int .i64 0) := (blk_cell BK255.out 0).trans rfl
    have hcz23_1 : w9.cell? ⟨gb255, 1, none⟩ = some (.int .i64 0) := (blk_cell BK255.out 1).trans rfl
    have hcz23_2 : w9.cell? ⟨gb255, 2, none⟩ = some (.bool false) := (blk_cell BK255.out 2).trans rfl
    have hfz23_0 := blk_frozen BK255.out 0
    have hfz23_1 := blk_frozen BK255.out 1
    have hfz23_2 := blk_frozen BK255.out 2
    go_wp2_with (first | (go_at_call 62; (with_reducible refine (darningref4_MaySize.calls ((rd_T35 l0 x13_1).f1) true _ A12.out).mono ?_); rintro e w' ⟨rfl, ⟨nd, rfl⟩⟩; have p257 : 0 ≤ ((ji20) : Int) := zu; have q257 : (ji20) < (l0.length : Int) := zu; obtain ⟨ad257, e257, hx257_0, hx257_1, hx257_2⟩ := at_T35 HR0.out (ji20) p257 q257; (try rw [← Nbq17.out] at hx257_2); obtain rfl : ad254 = ad257 := (by injection e257); have hn257_0 : ad254.block ≠ gb255 := Nat.ne_of_lt (Nat.lt_of_lt_of_le (by have := qp _ _ hx257_0; first | rwa [add_block] at this | exact this) GW255.out); have hn257_1 : ad254.block ≠ gb255 := Nat.ne_of_lt (Nat.lt_of_lt_of_le (by have := qp _ _ hx257_0; first | rwa [add_block] at this | exact this) GW255.out); have hn257_2 : ad254.block ≠ gb255 := Nat.ne_of_lt (Nat.lt_of_lt_of_le (by have := qp _ _ hx257_0; first | rwa [add_block] at this | exact this) GW255.out); replace hx257_0 := zw HB hx257_0; replace hx257_1 := zw HB hx257_1; replace hx257_2 := zw HB hx257_2; replace hx257_0 := (cell_far (p := ⟨gb255, 0, none⟩) (by first | (rw [add_block]; exact hn257_0) | (show (Addr.add _ _).block ≠ _; rw [add_block]; exact hn257_0) | exact hn257_0) (.int .i64 ((rd_T35 l0 x13_1).f0))).trans hx257_0; replace hx257_1 := (cell_far (p := ⟨gb255, 0, none⟩) (by first | (rw [add_block]; exact hn257_0) | (show (Addr.add _ _).block ≠ _; rw [add_block]; exact hn257_0) | exact hn257_0) (.int .i64 ((rd_T35 l0 x13_1).f0))).trans hx257_1; replace hx257_2 := (cell_far (p := ⟨gb255, 0, none⟩) (by first | (rw [add_block]; exact hn257_0) | (show (Addr.add _ _).block ≠ _; rw [add_block]; exact hn257_0) | exact hn257_0) (.int .i64 ((rd_T35 l0 x13_1).f0))).trans hx257_2; replace hx257_0 := (cell_far (p := ⟨gb255, 1, none⟩) (by first | (rw [add_block]; exact hn257_1) | (show (Addr.add _ _).block ≠ _; rw [add_block]; exact hn257_1) | exact hn257_1) (.int .i64 ((rd_T35 l0 x13_1).f1))).trans hx257_0; replace hx257_1 := (cell_far (p := ⟨gb255, 1, none⟩) (by first | (rw [add_block]; exact hn257_1) | (show (Addr.add _ _).block ≠ _; rw [add_block]; exact hn257_1) | exact hn257_1) (.int .i64 ((rd_T35 l0 x13_1).f1))).trans hx257_1; replace hx257_2 := (cell_far (p := ⟨gb255, 1, none⟩) (by first | (rw [add_block]; exact hn257_1) | (show (Addr.add _ _).block ≠ _; rw [add_block]; exact hn257_1) | exact hn257_1) (.int .i64 ((rd_T35 l0 x13_1).f1))).trans hx257_2; replace hx257_0 := (cell_far (p := ⟨gb255, 2, none⟩) (by first | (rw [add_block]; exact hn257_2) | (show (Addr.add _ _).block ≠ _; rw [add_block]; exact hn257_2) | exact hn257_2) (.bool false)).trans hx257_0; replace hx257_1 := (cell_far (p := ⟨gb255, 2, none⟩) (by first | (rw [add_block]; exact hn257_2) | (show (Addr.add _ _).block ≠ _; rw [add_block]; exact hn257_2) | exact hn257_2) (.bool false)).trans hx257_1; replace hx257_2 := (cell_far (p := ⟨gb255, 2, none⟩) (by first | (rw [add_block]; exact hn257_2) | (show (Addr.add _ _).block ≠ _; rw [add_block]; exact hn257_2) | exact hn257_2) (.bool false)).trans hx257_2; clear hn257_0; clear hn257_1; clear hn257_2; replace p257 := eq_true p257; replace q257 := eq_true q257))
    go_meet
    case rel => (try simp only [← Nbq17.out]); exact ⟨_, (!((rd_T35 l0 (ji20)).f2)), (by first | rfl | (simp; done) | (simp only [← hji20] <;> (first | rfl | simp)) | (simp [*]; done)), (by first | exact H' | (simp only [hji20]; exact H')), ⟨by have := HK1.out; first | omega | exact Nat.le_refl _⟩, ⟨by (with_reducible repeat (first | refine blk_drewN ?_ _ | refine blk_drew ?_ | refine blk_alloc ?_ _)); refine blk_put (cs := #[.int .i64 ((rd_T35 l0 x13_1).f0), .int .i64 ((rd_T35 l0 x13_1).f1), .bool false]) ?_ 2 _ rfl; (with_reducible repeat (first | refine blk_drewN ?_ _ | refine blk_drew ?_ | refine blk_alloc ?_ _)); refine blk_put (cs := #[.int .i64 ((rd_T35 l0 x13_1).f0), .int .i64 0, .bool false]) ?_ 1 _ rfl; (with_reducible repeat (first | refine blk_drewN ?_ _ | refine blk_drew ?_ | refine blk_alloc ?_ _)); refine blk_put (cs := #[.int .i64 0, .int .i64 0, .bool false]) ?_ 0 _ rfl; (with_reducible repeat (first | refine blk_drewN ?_ _ | refine blk_drew ?_ | refine blk_alloc ?_ _)); exact BK255.out⟩, ⟨by repeat (first | (with_reducible first | exact HB.out | apply qd | apply qe | apply qf | refine below_set ?_ GE255.out) | exact HB.out)⟩⟩
   clear HC8
   try clear c1
   try clear q1
   try clear c2
   try clear p2
   try clear q2
   try clear hx2
   try clear c4
   try clear c5
   try clear c5b0
   try clear c6
   try clear c6b0
   try clear p6
   try clear c7
   try clear c7b0
   try clear c11
   try clear c11b0
   try clear c11b1
   try clear c13
   try clear c14
   try clear c14b0
   try clear c16
   try clear c16b0
   try clear q17
   try clear c18
   try clear c21
   try clear c21b0
   try clear c22
   try clear c22b0
   try clear p25
   try clear q25
   try clear hx25
   try clear hcz10_0
   try clear hcz10_1
   try clear hcz10_2
   try clear hcz15_0
   try clear hcz15_1
   try clear hcz15_2
   try clear hcz19_0
   try clear hcz19_1
   try clear hcz19_2
   try clear hcz23_0
   try clear hcz23_1
   try clear hcz23_2
   try clear hcz24_0
   try clear hcz24_1
   try clear hcz24_2
   try clear hcz25_0
   try clear hcz25_1
   try clear hcz25_2
   try clear hcz26_0
   try clear hcz26_1
   try clear hcz26_2
   try clear hfz10_0
   try clear hfz10_1
   try clear hfz10_2
   try clear hfz15_0
   try clear hfz15_1
   try clear hfz15_2
   try clear hfz19_0
   try clear hfz19_1
   try clear hfz19_2
   try clear hfz23_0
   try clear hfz23_1
   try clear hfz23_2
   try clear hfz24_0
   try clear hfz24_1
   try clear hfz24_2
   try clear hfz25_0
   try clear hfz25_1
   try clear hfz25_2
   try clear hfz26_0
   try clear hfz26_1
   try clear hfz26_2
   try clear hx254_0
   try clear hx254_1
   try clear hx254_2
   try clear hx257_0
   try clear hx257_1
   try clear hx257_2
   try clear p2
   try clear p254
   try clear p257
   try clear q254
   try clear q257
   obtain ⟨kq, x53_7, rfl, HA, HJ7, BK255, HB⟩ := hcut
   cases kq with
   | zero => exact absurd HA.out (by simp [darningref4_MayBlocks.j1])
   | succ kj7 =>
    have H := HA.out
    clear HA
    simp only [darningref4_MayBlocks.j1] at H
    by_cases c27 : x53_7 = true
    ·
     subst c27
     have H1 : (some false) = some r := by rw [if_pos rfl] at H; exact H
     clear H
     have H := H1
     clear H1
     obtain rfl := Option.some.inj H
     go_wp2
     go_ret
     exact ⟨by first | rfl | (simp [errW_none, errW_some] <;> rfl) | (simp [*, errW_none, errW_some] <;> rfl), by repeat (first | (with_reducible first | exact HB.out | apply qd | apply qe | apply qf | refine below_set ?_ GE255.out) | exact HB.out)⟩
    replace c27 := Bool.eq_false_iff.mpr c27
    subst c27
    have H1 : (darningref4_MayBlocks.l0 kj7 l0 a1 (wrap64 (x5_1 + ((rd_T35 l0 x13_1).f1))) l0 (l0.length : Int) (wrap64 (x13_1 + 1))) = some r := by rw [if_neg (show ¬ (false = true) by decide)] at H; exact H
    clear H
    have H := H1
    clear H1
    have H' := Aside0.mk H
    clear H
    have hcz28_0 : wc.cell? ⟨gb255, 0, none⟩ = some (.int .i64 ((rd_T35 l0 x13_1).f0)) := (blk_cell BK255.out 0).trans rfl
    have hcz28_1 : wc.cell? ⟨gb255, 1, none⟩ = some (.int .i64 ((rd_T35 l0 x13_1).f1)) := (blk_cell BK255.out 1).trans rfl
    have hcz28_2 : wc.cell? ⟨gb255, 2, none⟩ = some (.bool ((rd_T35 l0 x13_1).f2)) := (blk_cell BK255.out 2).trans rfl
    have hfz28_0 := blk_frozen BK255.out 0
    have hfz28_1 := blk_frozen BK255.out 1
    have hfz28_2 := blk_frozen BK255.out 2
    go_wp2
    go_roundg kj7
    case measure => have := HK1.out; have := HJ7.out; omega
    case rel => exact ⟨(wrap64 (x5_1 + ((rd_T35 l0 x13_1).f1))), (wrap64 (x13_1 + 1)), (by first | rfl | (simp; done) | (simp [*]; done)), (by first | rfl | (simp; done) | (simp [*]; done)), (by first | exact H' | ((try rw [hji20]); exact H')), ⟨by have := HK1.out; have := HJ7.out; omega⟩, ⟨by repeat (first | (with_reducible first | exact HB.out | apply qd | apply qe | apply qf | refine below_set ?_ GE255.out) | exact HB.out)⟩⟩

end Go.Proofs.Ytglekonhdjploaa.XImageForms
