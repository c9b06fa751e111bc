-- Laid by this session's own printer (wip/xprint.py): each Go function that the law reaches as a plain Lean function, and that the call comes to it.
import Derived.Test.YtglekonhdjploaaXImageBoundsx0
import Derived.Test.YtglekonhdjploaaXImageBoundsx1
import Derived.Test.YtglekonhdjploaaXImageBoundsx5
import Derived.Test.YtglekonhdjploaaXImageBoundsx6
import Derived.Test.YtglekonhdjploaaXImageBoundsx7
namespace Go.Proofs.Ytglekonhdjploaa.XImageBounds
open Go.RowKit Go.Proofs.YtglekonhdjploaaW.PrintWords Go.Proofs.YtglekonhdjploaaW.PrintLast Go.Proofs.YtglekonhdjploaaW.PrintMore
attribute [local go_sem] max2_int min2_int max_two min_two max_three min_three max_four min_four   -- for this text's walks alone
set_option linter.unusedVariables false
set_option linter.unusedSimpArgs false

/-! ### image_Write: function 50 -/
def image_Write.f (k : Nat) (l0 : List Int) (a1 : Int) (l2 : List Int) : Option ((List (S30)) × Int) := (image_holds.f k l0 a1 (l2.length : Int)).bind fun t229 => (if t229 = 0 then ((span_Edits.f k l0 a1 l2).bind fun bt230 => (some (bt230.1, 0))) else (some (([] : List (S30)), t229)))
theorem image_Write.mono : ∀ a0 a1 a2 k, LeO (image_Write.f k a0 a1 a2) (image_Write.f (k + 1) a0 a1 a2) := by
  intro a0 a1 a2 k
  unfold image_Write.f
  repeat' first
      | (with_reducible exact image_holds.mono _ _ _ _)
      | (with_reducible exact span_Edits.mono _ _ _ _)
      | (with_reducible exact LeO.refl _)
      | (with_reducible exact LeO.none _)
      | (with_reducible refine LeO.ite ?_ ?_)
      | (with_reducible refine LeO.bind ?_ (fun _ => ?_))
      | exact image_holds.mono _ _ _ _
      | exact span_Edits.mono _ _ _ _
      | exact LeO.none _
      | refine LeO.ite ?_ ?_
      | refine LeO.bind ?_ (fun _ => ?_)
set_option maxHeartbeats 8000000 in
set_option maxRecDepth 100000 in
theorem image_Write.calls (k : Nat) (A0 : Option Addr) (c0 : Nat) (l0 : List Int) (a1 : Int) (A2 : Option Addr) (c2 : Nat) (l2 : List Int) (r1 : List (S30)) (r2 : Int) (w : World) (hr0 : Kd.C (Kd.int .u64) w A0 l0.length l0) (hc0 : l0.length ≤ c0) (hr2 : Kd.C (Kd.int .u8) w A2 l2.length l2) (hc2 : l2.length ≤ c2) (h : image_Write.f k l0 a1 l2 = some (r1, r2)) :
    Calls Try.prog 50 #[.slice A0 l0.length c0, .int .i64 a1, .slice A2 l2.length c2] w fun e w' => ∃ v0_ : Value, e = .returned (.tuple #[v0_, .int .i64 r2]) ∧ Kd.R k30 30 w' w.heap.size (fun _ => True) v0_ r1 ∧ Below w.heap.size w w' := by
  have HR0 := Aside0.mk hr0
  have HC0 := Aside0.mk hc0
  clear hr0 hc0
  have HR2 := Aside0.mk hr2
  have HC2 := Aside0.mk hc2
  clear hr2 hc2
  have HB := Aside0.mk (Below.refl w.heap.size w)
  have H : ((image_holds.f k l0 a1 (l2.length : Int)).bind fun t229 => (if t229 = 0 then ((span_Edits.f k l0 a1 l2).bind fun bt230 => (some (bt230.1, 0))) else (some (([] : List (S30)), t229)))) = some (r1, r2) := h
  clear h
  replace H := Option.bind_eq_some_iff.mp H
  obtain ⟨t229, A40, H⟩ := H
  replace H : (if t229 = 0 then ((span_Edits.f k l0 a1 l2).bind fun bt230 => (some (bt230.1, 0))) else (some (([] : List (S30)), t229))) = some (r1, r2) := H
  have A4 := Aside0.mk A40
  clear A40
  by_cases c5 : t229 = 0
  · rw [if_pos c5] at H
    have c5b0 : (t229 == 0) = true := beq_iff_eq.mpr c5
    have c5b1 : (t229 != 0) = false := bne_eq_false_iff_eq.mpr c5
    clear c5
    replace H := Option.bind_eq_some_iff.mp H
    obtain ⟨⟨t230, t231⟩, A60, H⟩ := H
    replace H : (some (t230, 0)) = some (r1, r2) := H
    have A6 := Aside0.mk A60
    clear A60
    simp only [Option.some.injEq, Prod.mk.injEq] at H
    obtain ⟨rfl, rfl⟩ := H
    go_enter Try.func50, Try.ntmps50
    go_wp2_with (first | ((with_reducible refine gate_callee (f := 75) rfl ?_); refine goesL_ (some 15) rfl rfl Try.func75 (by kernel_rfl) rfl #[.slice A0 l0.length c0, .int .i64 a1, .int .i64 (l2.length : Int)] rfl (by (try simp only [List.map_toArray, List.map_cons, List.map_nil]); first | done | rfl | (simp only [List.length_drop, List.length_take]; rfl)) ?_; (with_reducible refine (image_holds.calls k _ _ l0 a1 (l2.length : Int) t229 _ ?side1 ?side2 A4.out).mono ?_); (case side1 => repeat (first | exact HR0.out | (with_reducible refine Kd.C_alloc ?_ _) | (with_reducible refine Kd.C_drewN ?_ _) | (with_reducible refine Kd.C_drew ?_))); (case side2 => exact HC0.out); rintro e w7 ⟨rfl, hb⟩; refine ⟨_, rfl, ?_⟩; have n0_ := Aside0.mk (below_step (by repeat (first | (with_reducible first | exact HB.out | apply below_alloc | apply pw_below_drewN | apply below_drew1) | exact HB.out)) hb); clear HB; have HB := n0_; clear n0_; (try clear hb); (try clear hb2); (try clear hk); (try clear hi)) | ((with_reducible refine gate_callee (f := 78) rfl ?_); refine goesL_ (some 23) rfl rfl Try.func78 (by kernel_rfl) rfl #[.slice A0 l0.length c0, .int .i64 a1, .slice A2 l2.length c2] rfl (by (try simp only [List.map_toArray, List.map_cons, List.map_nil]); first | done | rfl | (simp only [List.length_drop, List.length_take]; rfl)) ?_; (with_reducible refine (span_Edits.calls k _ _ l0 a1 _ _ l2 t230 t231 _ ?side1 ?side2 ?side3 ?side4 A6.out).mono ?_); (case side1 => repeat (first | exact (Kd.C_below HR0.out HB.out) | (with_reducible refine Kd.C_alloc ?_ _) | (with_reducible refine Kd.C_drewN ?_ _) | (with_reducible refine Kd.C_drew ?_))); (case side2 => exact HC0.out); (case side3 => repeat (first | exact (Kd.C_below HR2.out HB.out) | (with_reducible refine Kd.C_alloc ?_ _) | (with_reducible refine Kd.C_drewN ?_ _) | (with_reducible refine Kd.C_drew ?_))); (case side4 => exact HC2.out); rintro e w8 ⟨v232, rfl, ho0, hb⟩; refine ⟨_, rfl, ?_⟩; have n0_ := Aside0.mk (Kd.R_lower ho0 (below_size (by repeat (first | (with_reducible first | exact HB.out | apply below_alloc | apply pw_below_drewN | apply below_drew1) | exact HB.out)))); have n1_ := Aside0.mk (below_step (by repeat (first | (with_reducible first | exact HB.out | apply below_alloc | apply pw_below_drewN | apply below_drew1) | exact HB.out)) hb); clear HB; have HO233 := n0_; have HB := n1_; clear n0_ n1_; (try clear hb); (try clear hb2); (try clear hk); (try clear hi); (try clear ho0)))
    go_ret2
    exact ⟨_, by first | rfl | (simp [errW_none, errW_some] <;> rfl) | (simp [*, errW_none, errW_some] <;> rfl), by (with_reducible repeat (first | apply Kd.R_alloc | apply Kd.R_drewN | apply Kd.R_drew)); exact HO233.out, by repeat (first | (with_reducible first | exact HB.out | apply below_alloc | apply pw_below_drewN | apply below_drew1) | exact HB.out)⟩
  · rw [if_neg c5] at H
    have c5b0 : (t229 == 0) = false := beq_eq_false_iff_ne.mpr c5
    have c5b1 : (t229 != 0) = true := bne_iff_ne.mpr c5
    simp only [Option.some.injEq, Prod.mk.injEq] at H
    obtain ⟨rfl, rfl⟩ := H
    go_enter Try.func50, Try.ntmps50
    go_wp2_with (first | ((with_reducible refine gate_callee (f := 75) rfl ?_); refine goesL_ (some 15) rfl rfl Try.func75 (by kernel_rfl) rfl #[.slice A0 l0.length c0, .int .i64 a1, .int .i64 (l2.length : Int)] rfl (by (try simp only [List.map_toArray, List.map_cons, List.map_nil]); first | done | rfl | (simp only [List.length_drop, List.length_take]; rfl)) ?_; (with_reducible refine (image_holds.calls k _ _ l0 a1 (l2.length : Int) t229 _ ?side1 ?side2 A4.out).mono ?_); (case side1 => repeat (first | exact HR0.out | (with_reducible refine Kd.C_alloc ?_ _) | (with_reducible refine Kd.C_drewN ?_ _) | (with_reducible refine Kd.C_drew ?_))); (case side2 => exact HC0.out); rintro e w9 ⟨rfl, hb⟩; refine ⟨_, rfl, ?_⟩; have n0_ := Aside0.mk (below_step (by repeat (first | (with_reducible first | exact HB.out | apply below_alloc | apply pw_below_drewN | apply below_drew1) | exact HB.out)) hb); clear HB; have HB := n0_; clear n0_; (try clear hb); (try clear hb2); (try clear hk); (try clear hi)))
    go_ret2
    exact ⟨_, by first | rfl | (simp [errW_none, errW_some] <;> rfl) | (simp [*, errW_none, errW_some] <;> rfl), by first | exact Kd.R_nil _ _ _ _ _ | exact Kd.N_nil _ _ _ _ _ | exact Kd.V_nil _ _ _ _ _ | exact Kd.Q_nil _ _ _ _ _ | exact Kd.S_nil _ _ _ _ _, by repeat (first | (with_reducible first | exact HB.out | apply below_alloc | apply pw_below_drewN | apply below_drew1) | exact HB.out)⟩

/-! ### darninglaw19_awake: function 40 -/
def darninglaw19_awake.f (k : Nat)  : Option (Bool) := (chain_First.f 16).bind fun t234 => ((image_Alloc.f k t234 8 ([] : List Int)).bind fun bt237 => ((darningref4_Apply.f k t234 bt237.1).bind fun t242 => ((image_Write.f k t242 bt237.2.1 (([7] : List Int))).bind fun bt248 => ((darningref4_Apply.f k t242 bt248.1).bind fun t252 => ((image_Read.f k t252 bt237.2.1 2).bind fun bt255 => (if bt237.2.2 = 0 then (if bt237.2.1 = 8 then (if bt248.2 = 0 then (if bt255.2 = 0 then (if (strOfNums bt255.1).toList = ([7, 0] : List UInt8) then ((image_Is.f k t252 8).bind fun t259 => (if t259 = true then ((image_Holds.f k t252 8 8).bind fun t260 => (if t260 = true then ((image_Holds.f k t252 8 9).bind fun t261 => (some (!t261))) else (some false))) else (some false))) else (some false)) else (some false)) else (some false)) else (some false)) else (some false)))))))
theorem darninglaw19_awake.mono : ∀ k, LeO (darninglaw19_awake.f k ) (darninglaw19_awake.f (k + 1) ) := by
  intro  k
  unfold darninglaw19_awake.f
  repeat' first
      | (with_reducible exact darningref4_Apply.mono _ _ _)
      | (with_reducible exact image_Alloc.mono _ _ _ _)
      | (with_reducible exact image_Holds.mono _ _ _ _)
      | (with_reducible exact image_Is.mono _ _ _)
      | (with_reducible exact image_Read.mono _ _ _ _)
      | (with_reducible exact image_Write.mono _ _ _ _)
      | (with_reducible exact LeO.refl _)
      | (with_reducible exact LeO.none _)
      | (with_reducible refine LeO.ite ?_ ?_)
      | (with_reducible refine LeO.bind ?_ (fun _ => ?_))
      | exact darningref4_Apply.mono _ _ _
      | exact image_Alloc.mono _ _ _ _
      | exact image_Holds.mono _ _ _ _
      | exact image_Is.mono _ _ _
      | exact image_Read.mono _ _ _ _
      | exact image_Write.mono _ _ _ _
      | exact LeO.none _
      | refine LeO.ite ?_ ?_
      | refine LeO.bind ?_ (fun _ => ?_)
set_option maxHeartbeats 8000000 in
set_option maxRecDepth 100000 in
theorem darninglaw19_awake.calls (k : Nat)  (w : World) (h : darninglaw19_awake.f k  = some true) :
    Calls Try.prog 40 #[] w fun e w' => e = .returned (.bool true) ∧ Below w.heap.size w w' := by
  have HB := Aside0.mk (Below.refl w.heap.size w)
  have H : ((chain_First.f 16).bind fun t234 => ((image_Alloc.f k t234 8 ([] : List Int)).bind fun bt237 => ((darningref4_Apply.f k t234 bt237.1).bind fun t242 => ((image_Write.f k t242 bt237.2.1 (([7] : List Int))).bind fun bt248 => ((darningref4_Apply.f k t242 bt248.1).bind fun t252 => ((image_Read.f k t252 bt237.2.1 2).bind fun bt255 => (if bt237.2.2 = 0 then (if bt237.2.1 = 8 then (if bt248.2 = 0 then (if bt255.2 = 0 then (if (strOfNums bt255.1).toList = ([7, 0] : List UInt8) then ((image_Is.f k t252 8).bind fun t259 => (if t259 = true then ((image_Holds.f k t252 8 8).bind fun t260 => (if t260 = true then ((image_Holds.f k t252 8 9).bind fun t261 => (some (!t261))) else (some false))) else (some false))) else (some false)) else (some false)) else (some false)) else (some false)) else (some false)))))))) = some true := h
  clear h
  replace H := Option.bind_eq_some_iff.mp H
  obtain ⟨t234, A10, H⟩ := H
  replace H : ((image_Alloc.f k t234 8 ([] : List Int)).bind fun bt237 => ((darningref4_Apply.f k t234 bt237.1).bind fun t242 => ((image_Write.f k t242 bt237.2.1 (([7] : List Int))).bind fun bt248 => ((darningref4_Apply.f k t242 bt248.1).bind fun t252 => ((image_Read.f k t252 bt237.2.1 2).bind fun bt255 => (if bt237.2.2 = 0 then (if bt237.2.1 = 8 then (if bt248.2 = 0 then (if bt255.2 = 0 then (if (strOfNums bt255.1).toList = ([7, 0] : List UInt8) then ((image_Is.f k t252 8).bind fun t259 => (if t259 = true then ((image_Holds.f k t252 8 8).bind fun t260 => (if t260 = true then ((image_Holds.f k t252 8 9).bind fun t261 => (some (!t261))) else (some false))) else (some false))) else (some false)) else (some false)) else (some false)) else (some false)) else (some false))))))) = some true := H
  have A1 := Aside0.mk A10
  clear A10
  replace H := Option.bind_eq_some_iff.mp H
  obtain ⟨⟨t237, t238, t239⟩, A20, H⟩ := H
  replace H : ((darningref4_Apply.f k t234 t237).bind fun t242 => ((image_Write.f k t242 t238 (([7] : List Int))).bind fun bt248 => ((darningref4_Apply.f k t242 bt248.1).bind fun t252 => ((image_Read.f k t252 t238 2).bind fun bt255 => (if t239 = 0 then (if t238 = 8 then (if bt248.2 = 0 then (if bt255.2 = 0 then (if (strOfNums bt255.1).toList = ([7, 0] : List UInt8) then ((image_Is.f k t252 8).bind fun t259 => (if t259 = true then ((image_Holds.f k t252 8 8).bind fun t260 => (if t260 = true then ((image_Holds.f k t252 8 9).bind fun t261 => (some (!t261))) else (some false))) else (some false))) else (some false)) else (some false)) else (some false)) else (some false)) else (some false)))))) = some true := H
  have A2 := Aside0.mk A20
  clear A20
  replace H := Option.bind_eq_some_iff.mp H
  obtain ⟨t242, A30, H⟩ := H
  replace H : ((image_Write.f k t242 t238 (([7] : List Int))).bind fun bt248 => ((darningref4_Apply.f k t242 bt248.1).bind fun t252 => ((image_Read.f k t252 t238 2).bind fun bt255 => (if t239 = 0 then (if t238 = 8 then (if bt248.2 = 0 then (if bt255.2 = 0 then (if (strOfNums bt255.1).toList = ([7, 0] : List UInt8) then ((image_Is.f k t252 8).bind fun t259 => (if t259 = true then ((image_Holds.f k t252 8 8).bind fun t260 => (if t260 = true then ((image_Holds.f k t252 8 9).bind fun t261 => (some (!t261))) else (some false))) else (some false))) else (some false)) else (some false)) else (some false)) else (some false)) else (some false))))) = some true := H
  have A3 := Aside0.mk A30
  clear A30
  obtain ⟨y245, hy245⟩ : ∃ y_ : List Int, y_ = (([7] : List Int)) := ⟨_, rfl⟩
  replace H : ((image_Write.f k t242 t238 y245).bind fun bt248 => ((darningref4_Apply.f k t242 bt248.1).bind fun t252 => ((image_Read.f k t252 t238 2).bind fun bt255 => (if t239 = 0 then (if t238 = 8 then (if bt248.2 = 0 then (if bt255.2 = 0 then (if (strOfNums bt255.1).toList = ([7, 0] : List UInt8) then ((image_Is.f k t252 8).bind fun t259 => (if t259 = true then ((image_Holds.f k t252 8 8).bind fun t260 => (if t260 = true then ((image_Holds.f k t252 8 9).bind fun t261 => (some (!t261))) else (some false))) else (some false))) else (some false)) else (some false)) else (some false)) else (some false)) else (some false))))) = some true := by first | (rw [hy245]; with_reducible exact H) | (have H2_ := (Option.bind_some _ _).symm.trans H; rw [hy245]; with_reducible exact H2_) | (have H2_ := (Option.bind_some _ _).symm.trans H; with_reducible exact H2_) | with_reducible exact H | (rw [hy245]; exact H) | exact H
  have Ny245 := Aside0.mk hy245
  clear hy245
  replace H := Option.bind_eq_some_iff.mp H
  obtain ⟨⟨t248, t249⟩, A40, H⟩ := H
  replace H : ((darningref4_Apply.f k t242 t248).bind fun t252 => ((image_Read.f k t252 t238 2).bind fun bt255 => (if t239 = 0 then (if t238 = 8 then (if t249 = 0 then (if bt255.2 = 0 then (if (strOfNums bt255.1).toList = ([7, 0] : List UInt8) then ((image_Is.f k t252 8).bind fun t259 => (if t259 = true then ((image_Holds.f k t252 8 8).bind fun t260 => (if t260 = true then ((image_Holds.f k t252 8 9).bind fun t261 => (some (!t261))) else (some false))) else (some false))) else (some false)) else (some false)) else (some false)) else (some false)) else (some false)))) = some true := H
  have A4 := Aside0.mk A40
  clear A40
  replace H := Option.bind_eq_some_iff.mp H
  obtain ⟨t252, A50, H⟩ := H
  replace H : ((image_Read.f k t252 t238 2).bind fun bt255 => (if t239 = 0 then (if t238 = 8 then (if t249 = 0 then (if bt255.2 = 0 then (if (strOfNums bt255.1).toList = ([7, 0] : List UInt8) then ((image_Is.f k t252 8).bind fun t259 => (if t259 = true then ((image_Holds.f k t252 8 8).bind fun t260 => (if t260 = true then ((image_Holds.f k t252 8 9).bind fun t261 => (some (!t261))) else (some false))) else (some false))) else (some false)) else (some false)) else (some false)) else (some false)) else (some false))) = some true := H
  have A5 := Aside0.mk A50
  clear A50
  replace H := Option.bind_eq_some_iff.mp H
  obtain ⟨⟨t255, t256⟩, A60, H⟩ := H
  replace H : (if t239 = 0 then (if t238 = 8 then (if t249 = 0 then (if t256 = 0 then (if (strOfNums t255).toList = ([7, 0] : List UInt8) then ((image_Is.f k t252 8).bind fun t259 => (if t259 = true then ((image_Holds.f k t252 8 8).bind fun t260 => (if t260 = true then ((image_Holds.f k t252 8 9).bind fun t261 => (some (!t261))) else (some false))) else (some false))) else (some false)) else (some false)) else (some false)) else (some false)) else (some false)) = some true := H
  have A6 := Aside0.mk A60
  clear A60
  by_cases c7 : t239 = 0
  · rw [if_pos c7] at H
    have c7b0 : (t239 == 0) = true := beq_iff_eq.mpr c7
    have c7b1 : (t239 != 0) = false := bne_eq_false_iff_eq.mpr c7
    clear c7
    by_cases c8 : t238 = 8
    · rw [if_pos c8] at H
      have c8b0 : (t238 == 8) = true := beq_iff_eq.mpr c8
      have c8b1 : (t238 != 8) = false := bne_eq_false_iff_eq.mpr c8
      clear c8
      by_cases c9 : t249 = 0
      · rw [if_pos c9] at H
        have c9b0 : (t249 == 0) = true := beq_iff_eq.mpr c9
        have c9b1 : (t249 != 0) = false := bne_eq_false_iff_eq.mpr c9
        clear c9
        by_cases c10 : t256 = 0
        · rw [if_pos c10] at H
          have c10b0 : (t256 == 0) = true := beq_iff_eq.mpr c10
          have c10b1 : (t256 != 0) = false := bne_eq_false_iff_eq.mpr c10
          clear c10
          by_cases c11 : (strOfNums t255).toList = ([7, 0] : List UInt8)
          · rw [if_pos c11] at H
            have c11b0 : ((strOfNums t255).toList == ([7, 0] : List UInt8)) = true := beq_iff_eq.mpr c11
            have c11b1 : ((strOfNums t255).toList != ([7, 0] : List UInt8)) = false := bne_eq_false_iff_eq.mpr c11
            clear c11
            replace H := Option.bind_eq_some_iff.mp H
            obtain ⟨t259, A120, H⟩ := H
            replace H : (if t259 = true then ((image_Holds.f k t252 8 8).bind fun t260 => (if t260 = true then ((image_Holds.f k t252 8 9).bind fun t261 => (some (!t261))) else (some false))) else (some false)) = some true := H
            have A12 := Aside0.mk A120
            clear A120
            by_cases c13 : t259 = true
            · subst c13
              have H1 : ((image_Holds.f k t252 8 8).bind fun t260 => (if t260 = true then ((image_Holds.f k t252 8 9).bind fun t261 => (some (!t261))) else (some false))) = some true := by rw [if_pos rfl] at H; exact H
              clear H
              have H := H1
              clear H1
              replace H := Option.bind_eq_some_iff.mp H
              obtain ⟨t260, A140, H⟩ := H
              replace H : (if t260 = true then ((image_Holds.f k t252 8 9).bind fun t261 => (some (!t261))) else (some false)) = some true := H
              have A14 := Aside0.mk A140
              clear A140
              by_cases c15 : t260 = true
              · subst c15
                have H1 : ((image_Holds.f k t252 8 9).bind fun t261 => (some (!t261))) = some true := by rw [if_pos rfl] at H; exact H
                clear H
                have H := H1
                clear H1
                replace H := Option.bind_eq_some_iff.mp H
                obtain ⟨t261, A160, H⟩ := H
                replace H : (some (!t261)) = some true := H
                have A16 := Aside0.mk A160
                clear A160
                obtain rfl : t261 = false := by simpa using Option.some.inj H
                go_enter Try.func40, Try.ntmps40
                go_wp2_with (first | ((with_reducible refine gate_callee (f := 38) rfl ?_); refine goesL_ (some 9) rfl rfl Try.func38 (by kernel_rfl) rfl #[.int .i64 16] rfl (by (try simp only [List.map_toArray, List.map_cons, List.map_nil]); first | done | rfl | (simp only [List.length_drop, List.length_take]; rfl)) ?_; (with_reducible refine (chain_First.calls 16 t234 _ A1.out).mono ?_); rintro e w17 ⟨v235, rfl, ho0, hb⟩; refine ⟨_, rfl, ?_⟩; have n0_ := Aside0.mk (Kd.R_lower ho0 (below_size (by repeat (first | (with_reducible first | exact HB.out | apply below_alloc | apply pw_below_drewN | apply below_drew1) | exact HB.out)))); have n1_ := Aside0.mk (below_step (by repeat (first | (with_reducible first | exact HB.out | apply below_alloc | apply pw_below_drewN | apply below_drew1) | exact HB.out)) hb); clear HB; have HO236 := n0_; have HB := n1_; clear n0_ n1_; (try clear hb); (try clear hb2); (try clear hk); (try clear hi); (try clear ho0); obtain ⟨Ao18, co18, eo18⟩ := Kd.R_slice HO236.out; subst eo18) | ((with_reducible refine gate_callee (f := 39) rfl ?_); refine goesL_ (some 12) rfl rfl Try.func39 (by kernel_rfl) rfl #[.slice Ao18 t234.length co18, .int .i64 8, .slice none 0 0] rfl (by (try simp only [List.map_toArray, List.map_cons, List.map_nil]); first | done | rfl | (simp only [List.length_drop, List.length_take]; rfl)) ?_; (refine (image_Alloc.calls k _ _ t234 8 _ _ ([] : List Int) t237 t238 t239 _ ?side1 ?side2 ?side3 ?side4 A2.out).mono ?_); (case side1 => repeat (first | exact (Kd.R_reads' HO236.out).2.2 | (with_reducible refine Kd.C_alloc ?_ _) | (with_reducible refine Kd.C_drewN ?_ _) | (with_reducible refine Kd.C_drew ?_))); (case side2 => exact (Kd.R_reads' HO236.out).2.1); (case side3 => exact Kd.C_nil _ _); (case side4 => exact Nat.le_refl _); rintro e w19 ⟨v240, rfl, ho0, hb⟩; refine ⟨_, rfl, ?_⟩; have n0_ := Aside0.mk (Kd.R_below (by (with_reducible repeat (first | apply Kd.R_alloc | apply Kd.R_drewN | apply Kd.R_drew)); exact HO236.out) hb); have n1_ := Aside0.mk (Kd.R_lower ho0 (below_size (by repeat (first | (with_reducible first | exact HB.out | apply below_alloc | apply pw_below_drewN | apply below_drew1) | exact HB.out)))); have n2_ := Aside0.mk (below_step (by repeat (first | (with_reducible first | exact HB.out | apply below_alloc | apply pw_below_drewN | apply below_drew1) | exact HB.out)) hb); clear HO236; clear HB; have HO236 := n0_; have HO241 := n1_; have HB := n2_; clear n0_ n1_ n2_; (try clear hb); (try clear hb2); (try clear hk); (try clear hi); (try clear ho0); obtain ⟨Ao20, co20, eo20⟩ := Kd.R_slice HO241.out; subst eo20) | ((with_reducible refine gate_callee (f := 34) rfl ?_); refine goesL_ (some 18) rfl rfl Try.func34 (by kernel_rfl) rfl #[.slice Ao18 t234.length co18, .slice Ao20 t237.length co20] rfl (by (try simp only [List.map_toArray, List.map_cons, List.map_nil]); first | done | rfl | (simp only [List.length_drop, List.length_take]; rfl)) ?_; (with_reducible refine (darningref4_Apply.calls k _ _ t234 _ _ t237 t242 _ ?side1 ?side2 ?side3 ?side4 A3.out).mono ?_); (case side1 => repeat (first | exact (Kd.R_reads' HO236.out).2.2 | (with_reducible refine Kd.C_alloc ?_ _) | (with_reducible refine Kd.C_drewN ?_ _) | (with_reducible refine Kd.C_drew ?_))); (case side2 => exact (Kd.R_reads' HO236.out).2.1); (case side3 => repeat (first | exact (Kd.R_reads' HO241.out).2.2 | (with_reducible refine Kd.C_alloc ?_ _) | (with_reducible refine Kd.C_drewN ?_ _) | (with_reducible refine Kd.C_drew ?_))); (case side4 => exact (Kd.R_reads' HO241.out).2.1); rintro e w21 ⟨v243, rfl, ho0, hb⟩; refine ⟨_, rfl, ?_⟩; have n0_ := Aside0.mk (Kd.R_elder' (by (with_reducible repeat (first | apply Kd.R_alloc | apply Kd.R_drewN | apply Kd.R_drew)); exact HO236.out) (Kd.R_base ho0) hb); have n1_ := Aside0.mk (Kd.R_below (by (with_reducible repeat (first | apply Kd.R_alloc | apply Kd.R_drewN | apply Kd.R_drew)); exact HO241.out) hb); have n2_ := Aside0.mk (Kd.R_lower (Kd.R_new' ho0 (Kd.R_lt (by (with_reducible repeat (first | apply Kd.R_alloc | apply Kd.R_drewN | apply Kd.R_drew)); exact HO236.out))) (below_size (by repeat (first | (with_reducible first | exact HB.out | apply below_alloc | apply pw_below_drewN | apply below_drew1) | exact HB.out)))); have n3_ := Aside0.mk (below_step (by repeat (first | (with_reducible first | exact HB.out | apply below_alloc | apply pw_below_drewN | apply below_drew1) | exact HB.out)) hb); clear HO236; clear HO241; clear HB; have HO236 := n0_; have HO241 := n1_; have HO244 := n2_; have HB := n3_; clear n0_ n1_ n2_ n3_; (try clear hb); (try clear hb2); (try clear hk); (try clear hi); (try clear ho0)) | ((with_reducible refine gate_dst (N := 22) rfl ?_); refine Kd.R_lit (Kd.int .u8) _ 5 ?hg (N := 22) ?hd (xs := ([7] : List Int)) (inner := [.int .u8 7]) (ok := fun _ => True) (okp := fun _ => True) ?hr ?hp (fun _ hk => hk) trivial (Below.refl _ _) (Nat.le_refl _) (by simp) ?_; (case hd => rfl); (case hg => rfl); (case hr => first | (go_simp; done) | (go_simp; rfl)); (case hp => exact (Reps.one (show Kd.M (Kd.int .u8) _ _ _ 7 [.int .u8 7] from rfl) (Reps.none _ _))); intro v246 w22 ho23 hb hg_ hnew_; clear hg_ hnew_; (first | rw [← Ny245.out] at ho23 | (simp only [Int.reduceToNat] at ho23; rw [← Ny245.out] at ho23)); have n0_ := Aside0.mk (Kd.R_below (by (with_reducible repeat (first | apply Kd.R_alloc | apply Kd.R_drewN | apply Kd.R_drew)); exact HO236.out) hb); have n1_ := Aside0.mk (Kd.R_below (by (with_reducible repeat (first | apply Kd.R_alloc | apply Kd.R_drewN | apply Kd.R_drew)); exact HO241.out) hb); have n2_ := Aside0.mk (Kd.R_below (by (with_reducible repeat (first | apply Kd.R_alloc | apply Kd.R_drewN | apply Kd.R_drew)); exact HO244.out) hb); have n3_ := Aside0.mk (Kd.R_lower ho23 (below_size (by repeat (first | (with_reducible first | exact HB.out | apply below_alloc | apply pw_below_drewN | apply below_drew1) | exact HB.out)))); have n4_ := Aside0.mk (below_step (by repeat (first | (with_reducible first | exact HB.out | apply below_alloc | apply pw_below_drewN | apply below_drew1) | exact HB.out)) hb); clear HO236; clear HO241; clear HO244; clear HB; have HO236 := n0_; have HO241 := n1_; have HO244 := n2_; have HO247 := n3_; have HB := n4_; clear n0_ n1_ n2_ n3_ n4_; clear hb ho23; obtain ⟨Ao24, co24, eo24⟩ := Kd.R_slice HO244.out; subst eo24; obtain ⟨Ao25, co25, eo25⟩ := Kd.R_slice HO247.out; subst eo25) | ((with_reducible refine gate_callee (f := 50) rfl ?_); refine goesL_ (some 23) rfl rfl Try.func50 (by kernel_rfl) rfl #[.slice Ao24 t242.length co24, .int .i64 t238, .slice Ao25 y245.length co25] rfl (by (try simp only [List.map_toArray, List.map_cons, List.map_nil]); first | done | rfl | (simp only [List.length_drop, List.length_take]; rfl)) ?_; (with_reducible refine (image_Write.calls k _ _ t242 t238 _ _ y245 t248 t249 _ ?side1 ?side2 ?side3 ?side4 A4.out).mono ?_); (case side1 => repeat (first | exact (Kd.R_reads' HO244.out).2.2 | (with_reducible refine Kd.C_alloc ?_ _) | (with_reducible refine Kd.C_drewN ?_ _) | (with_reducible refine Kd.C_drew ?_))); (case side2 => exact (Kd.R_reads' HO244.out).2.1); (case side3 => repeat (first | exact (Kd.R_reads' HO247.out).2.2 | (with_reducible refine Kd.C_alloc ?_ _) | (with_reducible refine Kd.C_drewN ?_ _) | (with_reducible refine Kd.C_drew ?_))); (case side4 => exact (Kd.R_reads' HO247.out).2.1); rintro e w26 ⟨v250, rfl, ho0, hb⟩; refine ⟨_, rfl, ?_⟩; have n0_ := Aside0.mk (Kd.R_below (by (with_reducible repeat (first | apply Kd.R_alloc | apply Kd.R_drewN | apply Kd.R_drew)); exact HO236.out) hb); have n1_ := Aside0.mk (Kd.R_elder' (by (with_reducible repeat (first | apply Kd.R_alloc | apply Kd.R_drewN | apply Kd.R_drew)); exact HO241.out) (Kd.R_base ho0) hb); have n2_ := Aside0.mk (Kd.R_below (by (with_reducible repeat (first | apply Kd.R_alloc | apply Kd.R_drewN | apply Kd.R_drew)); exact HO244.out) hb); have n3_ := Aside0.mk (Kd.R_below (by (with_reducible repeat (first | apply Kd.R_alloc | apply Kd.R_drewN | apply Kd.R_drew)); exact HO247.out) hb); have n4_ := Aside0.mk (Kd.R_lower (Kd.R_new' ho0 (Kd.R_lt (by (with_reducible repeat (first | apply Kd.R_alloc | apply Kd.R_drewN | apply Kd.R_drew)); exact HO241.out))) (below_size (by repeat (first | (with_reducible first | exact HB.out | apply below_alloc | apply pw_below_drewN | apply below_drew1) | exact HB.out)))); have n5_ := Aside0.mk (below_step (by repeat (first | (with_reducible first | exact HB.out | apply below_alloc | apply pw_below_drewN | apply below_drew1) | exact HB.out)) hb); clear HO236; clear HO241; clear HO244; clear HO247; clear HB; have HO236 := n0_; have HO241 := n1_; have HO244 := n2_; have HO247 := n3_; have HO251 := n4_; have HB := n5_; clear n0_ n1_ n2_ n3_ n4_ n5_; (try clear hb); (try clear hb2); (try clear hk); (try clear hi); (try clear ho0); obtain ⟨Ao27, co27, eo27⟩ := Kd.R_slice HO251.out; subst eo27) | ((with_reducible refine gate_callee (f := 34) rfl ?_); refine goesL_ (some 28) rfl rfl Try.func34 (by kernel_rfl) rfl #[.slice Ao24 t242.length co24, .slice Ao27 t248.length co27] rfl (by (try simp only [List.map_toArray, List.map_cons, List.map_nil]); first | done | rfl | (simp only [List.length_drop, List.length_take]; rfl)) ?_; (with_reducible refine (darningref4_Apply.calls k _ _ t242 _ _ t248 t252 _ ?side1 ?side2 ?side3 ?side4 A5.out).mono ?_); (case side1 => repeat (first | exact (Kd.R_reads' HO244.out).2.2 | (with_reducible refine Kd.C_alloc ?_ _) | (with_reducible refine Kd.C_drewN ?_ _) | (with_reducible refine Kd.C_drew ?_))); (case side2 => exact (Kd.R_reads' HO244.out).2.1); (case side3 => repeat (first | exact (Kd.R_reads' HO251.out).2.2 | (with_reducible refine Kd.C_alloc ?_ _) | (with_reducible refine Kd.C_drewN ?_ _) | (with_reducible refine Kd.C_drew ?_))); (case side4 => exact (Kd.R_reads' HO251.out).2.1); rintro e w28 ⟨v253, rfl, ho0, hb⟩; refine ⟨_, rfl, ?_⟩; have n0_ := Aside0.mk (Kd.R_elder' (by (with_reducible repeat (first | apply Kd.R_alloc | apply Kd.R_drewN | apply Kd.R_drew)); exact HO236.out) (Kd.R_base ho0) hb); have n1_ := Aside0.mk (Kd.R_below (by (with_reducible repeat (first | apply Kd.R_alloc | apply Kd.R_drewN | apply Kd.R_drew)); exact HO241.out) hb); have n2_ := Aside0.mk (Kd.R_elder' (by (with_reducible repeat (first | apply Kd.R_alloc | apply Kd.R_drewN | apply Kd.R_drew)); exact HO244.out) (Kd.R_base ho0) hb); have n3_ := Aside0.mk (Kd.R_below (by (with_reducible repeat (first | apply Kd.R_alloc | apply Kd.R_drewN | apply Kd.R_drew)); exact HO247.out) hb); have n4_ := Aside0.mk (Kd.R_below (by (with_reducible repeat (first | apply Kd.R_alloc | apply Kd.R_drewN | apply Kd.R_drew)); exact HO251.out) hb); have n5_ := Aside0.mk (Kd.R_lower (Kd.R_new' (Kd.R_new' ho0 (Kd.R_lt (by (with_reducible repeat (first | apply Kd.R_alloc | apply Kd.R_drewN | apply Kd.R_drew)); exact HO236.out))) (Kd.R_lt (by (with_reducible repeat (first | apply Kd.R_alloc | apply Kd.R_drewN | apply Kd.R_drew)); exact HO244.out))) (below_size (by repeat (first | (with_reducible first | exact HB.out | apply below_alloc | apply pw_below_drewN | apply below_drew1) | exact HB.out)))); have n6_ := Aside0.mk (below_step (by repeat (first | (with_reducible first | exact HB.out | apply below_alloc | apply pw_below_drewN | apply below_drew1) | exact HB.out)) hb); clear HO236; clear HO241; clear HO244; clear HO247; clear HO251; clear HB; have HO236 := n0_; have HO241 := n1_; have HO244 := n2_; have HO247 := n3_; have HO251 := n4_; have HO254 := n5_; have HB := n6_; clear n0_ n1_ n2_ n3_ n4_ n5_ n6_; (try clear hb); (try clear hb2); (try clear hk); (try clear hi); (try clear ho0); obtain ⟨Ao29, co29, eo29⟩ := Kd.R_slice HO254.out; subst eo29) | ((with_reducible refine gate_callee (f := 48) rfl ?_); refine goesL_ (some 32) rfl rfl Try.func48 (by kernel_rfl) rfl #[.slice Ao29 t252.length co29, .int .i64 t238, .int .i64 2] rfl (by (try simp only [List.map_toArray, List.map_cons, List.map_nil]); first | done | rfl | (simp only [List.length_drop, List.length_take]; rfl)) ?_; (with_reducible refine (image_Read.calls k _ _ t252 t238 2 t255 t256 _ ?side1 ?side2 A6.out).mono ?_); (case side1 => repeat (first | exact (Kd.R_reads' HO254.out).2.2 | (with_reducible refine Kd.C_alloc ?_ _) | (with_reducible refine Kd.C_drewN ?_ _) | (with_reducible refine Kd.C_drew ?_))); (case side2 => exact (Kd.R_reads' HO254.out).2.1); rintro e w30 ⟨v257, rfl, ho0, hb⟩; refine ⟨_, rfl, ?_⟩; have n0_ := Aside0.mk (Kd.R_below (by (with_reducible repeat (first | apply Kd.R_alloc | apply Kd.R_drewN | apply Kd.R_drew)); exact HO236.out) hb); have n1_ := Aside0.mk (Kd.R_below (by (with_reducible repeat (first | apply Kd.R_alloc | apply Kd.R_drewN | apply Kd.R_drew)); exact HO241.out) hb); have n2_ := Aside0.mk (Kd.R_below (by (with_reducible repeat (first | apply Kd.R_alloc | apply Kd.R_drewN | apply Kd.R_drew)); exact HO244.out) hb); have n3_ := Aside0.mk (Kd.R_elder' (by (with_reducible repeat (first | apply Kd.R_alloc | apply Kd.R_drewN | apply Kd.R_drew)); exact HO247.out) (Kd.R_base ho0) hb); have n4_ := Aside0.mk (Kd.R_below (by (with_reducible repeat (first | apply Kd.R_alloc | apply Kd.R_drewN | apply Kd.R_drew)); exact HO251.out) hb); have n5_ := Aside0.mk (Kd.R_below (by (with_reducible repeat (first | apply Kd.R_alloc | apply Kd.R_drewN | apply Kd.R_drew)); exact HO254.out) hb); have n6_ := Aside0.mk (Kd.R_lower (Kd.R_new' ho0 (Kd.R_lt (by (with_reducible repeat (first | apply Kd.R_alloc | apply Kd.R_drewN | apply Kd.R_drew)); exact HO247.out))) (below_size (by repeat (first | (with_reducible first | exact HB.out | apply below_alloc | apply pw_below_drewN | apply below_drew1) | exact HB.out)))); have n7_ := Aside0.mk (below_step (by repeat (first | (with_reducible first | exact HB.out | apply below_alloc | apply pw_below_drewN | apply below_drew1) | exact HB.out)) hb); clear HO236; clear HO241; clear HO244; clear HO247; clear HO251; clear HO254; clear HB; have HO236 := n0_; have HO241 := n1_; have HO244 := n2_; have HO247 := n3_; have HO251 := n4_; have HO254 := n5_; have HO258 := n6_; have HB := n7_; clear n0_ n1_ n2_ n3_ n4_ n5_ n6_ n7_; (try clear hb); (try clear hb2); (try clear hk); (try clear hi); (try clear ho0); have hcv31 := own_string (P := Try.prog) Try.underlying63 Try.underlying5 Try.underlying9 (Kd.own_of_R HO258.out)) | (go_at_call 43; (with_reducible refine (image_Is.calls k _ _ t252 8 true _ ?side1 ?side2 A12.out).mono ?_); (case side1 => repeat (first | exact (Kd.R_reads' HO254.out).2.2 | (with_reducible refine Kd.C_alloc ?_ _) | (with_reducible refine Kd.C_drewN ?_ _) | (with_reducible refine Kd.C_drew ?_))); (case side2 => exact (Kd.R_reads' HO254.out).2.1); rintro e w32 ⟨rfl, hb⟩; have n0_ := Aside0.mk (Kd.R_below (by (with_reducible repeat (first | apply Kd.R_alloc | apply Kd.R_drewN | apply Kd.R_drew)); exact HO236.out) hb); have n1_ := Aside0.mk (Kd.R_below (by (with_reducible repeat (first | apply Kd.R_alloc | apply Kd.R_drewN | apply Kd.R_drew)); exact HO241.out) hb); have n2_ := Aside0.mk (Kd.R_below (by (with_reducible repeat (first | apply Kd.R_alloc | apply Kd.R_drewN | apply Kd.R_drew)); exact HO244.out) hb); have n3_ := Aside0.mk (Kd.R_below (by (with_reducible repeat (first | apply Kd.R_alloc | apply Kd.R_drewN | apply Kd.R_drew)); exact HO247.out) hb); have n4_ := Aside0.mk (Kd.R_below (by (with_reducible repeat (first | apply Kd.R_alloc | apply Kd.R_drewN | apply Kd.R_drew)); exact HO251.out) hb); have n5_ := Aside0.mk (Kd.R_below (by (with_reducible repeat (first | apply Kd.R_alloc | apply Kd.R_drewN | apply Kd.R_drew)); exact HO254.out) hb); have n6_ := Aside0.mk (Kd.R_below (by (with_reducible repeat (first | apply Kd.R_alloc | apply Kd.R_drewN | apply Kd.R_drew)); exact HO258.out) hb); have n7_ := Aside0.mk (below_step (by repeat (first | (with_reducible first | exact HB.out | apply below_alloc | apply pw_below_drewN | apply below_drew1) | exact HB.out)) hb); clear HO236; clear HO241; clear HO244; clear HO247; clear HO251; clear HO254; clear HO258; clear HB; have HO236 := n0_; have HO241 := n1_; have HO244 := n2_; have HO247 := n3_; have HO251 := n4_; have HO254 := n5_; have HO258 := n6_; have HB := n7_; clear n0_ n1_ n2_ n3_ n4_ n5_ n6_ n7_; (try clear hb); (try clear hb2); (try clear hk); (try clear hi)) | (go_at_call 42; (with_reducible refine (image_Holds.calls k _ _ t252 8 8 true _ ?side1 ?side2 A14.out).mono ?_); (case side1 => repeat (first | exact (Kd.R_reads' HO254.out).2.2 | (with_reducible refine Kd.C_alloc ?_ _) | (with_reducible refine Kd.C_drewN ?_ _) | (with_reducible refine Kd.C_drew ?_))); (case side2 => exact (Kd.R_reads' HO254.out).2.1); rintro e w33 ⟨rfl, hb⟩; have n0_ := Aside0.mk (Kd.R_below (by (with_reducible repeat (first | apply Kd.R_alloc | apply Kd.R_drewN | apply Kd.R_drew)); exact HO236.out) hb); have n1_ := Aside0.mk (Kd.R_below (by (with_reducible repeat (first | apply Kd.R_alloc | apply Kd.R_drewN | apply Kd.R_drew)); exact HO241.out) hb); have n2_ := Aside0.mk (Kd.R_below (by (with_reducible repeat (first | apply Kd.R_alloc | apply Kd.R_drewN | apply Kd.R_drew)); exact HO244.out) hb); have n3_ := Aside0.mk (Kd.R_below (by (with_reducible repeat (first | apply Kd.R_alloc | apply Kd.R_drewN | apply Kd.R_drew)); exact HO247.out) hb); have n4_ := Aside0.mk (Kd.R_below (by (with_reducible repeat (first | apply Kd.R_alloc | apply Kd.R_drewN | apply Kd.R_drew)); exact HO251.out) hb); have n5_ := Aside0.mk (Kd.R_below (by (with_reducible repeat (first | apply Kd.R_alloc | apply Kd.R_drewN | apply Kd.R_drew)); exact HO254.out) hb); have n6_ := Aside0.mk (Kd.R_below (by (with_reducible repeat (first | apply Kd.R_alloc | apply Kd.R_drewN | apply Kd.R_drew)); exact HO258.out) hb); have n7_ := Aside0.mk (below_step (by repeat (first | (with_reducible first | exact HB.out | apply below_alloc | apply pw_below_drewN | apply below_drew1) | exact HB.out)) hb); clear HO236; clear HO241; clear HO244; clear HO247; clear HO251; clear HO254; clear HO258; clear HB; have HO236 := n0_; have HO241 := n1_; have HO244 := n2_; have HO247 := n3_; have HO251 := n4_; have HO254 := n5_; have HO258 := n6_; have HB := n7_; clear n0_ n1_ n2_ n3_ n4_ n5_ n6_ n7_; (try clear hb); (try clear hb2); (try clear hk); (try clear hi)) | (go_at_call 42; (with_reducible refine (image_Holds.calls k _ _ t252 8 9 false _ ?side1 ?side2 A16.out).mono ?_); (case side1 => repeat (first | exact (Kd.R_reads' HO254.out).2.2 | (with_reducible refine Kd.C_alloc ?_ _) | (with_reducible refine Kd.C_drewN ?_ _) | (with_reducible refine Kd.C_drew ?_))); (case side2 => exact (Kd.R_reads' HO254.out).2.1); rintro e w34 ⟨rfl, hb⟩; have n0_ := Aside0.mk (Kd.R_below (by (with_reducible repeat (first | apply Kd.R_alloc | apply Kd.R_drewN | apply Kd.R_drew)); exact HO236.out) hb); have n1_ := Aside0.mk (Kd.R_below (by (with_reducible repeat (first | apply Kd.R_alloc | apply Kd.R_drewN | apply Kd.R_drew)); exact HO241.out) hb); have n2_ := Aside0.mk (Kd.R_below (by (with_reducible repeat (first | apply Kd.R_alloc | apply Kd.R_drewN | apply Kd.R_drew)); exact HO244.out) hb); have n3_ := Aside0.mk (Kd.R_below (by (with_reducible repeat (first | apply Kd.R_alloc | apply Kd.R_drewN | apply Kd.R_drew)); exact HO247.out) hb); have n4_ := Aside0.mk (Kd.R_below (by (with_reducible repeat (first | apply Kd.R_alloc | apply Kd.R_drewN | apply Kd.R_drew)); exact HO251.out) hb); have n5_ := Aside0.mk (Kd.R_below (by (with_reducible repeat (first | apply Kd.R_alloc | apply Kd.R_drewN | apply Kd.R_drew)); exact HO254.out) hb); have n6_ := Aside0.mk (Kd.R_below (by (with_reducible repeat (first | apply Kd.R_alloc | apply Kd.R_drewN | apply Kd.R_drew)); exact HO258.out) hb); have n7_ := Aside0.mk (below_step (by repeat (first | (with_reducible first | exact HB.out | apply below_alloc | apply pw_below_drewN | apply below_drew1) | exact HB.out)) hb); clear HO236; clear HO241; clear HO244; clear HO247; clear HO251; clear HO254; clear HO258; clear HB; have HO236 := n0_; have HO241 := n1_; have HO244 := n2_; have HO247 := n3_; have HO251 := n4_; have HO254 := n5_; have HO258 := n6_; have HB := n7_; clear n0_ n1_ n2_ n3_ n4_ n5_ n6_ n7_; (try clear hb); (try clear hb2); (try clear hk); (try clear hi)))
                go_ret
                exact ⟨by first | rfl | (rw [HRA_.out]) | (simp only [HRA_.out]; done) | (simp only [← HRA_.out]; done) | (have HR_ := HRA_.out; simp_all) | (simp [errW_none, errW_some] <;> rfl) | (simp [*, errW_none, errW_some] <;> rfl), by repeat (first | (with_reducible first | exact HB.out | apply below_alloc | apply pw_below_drewN | apply below_drew1) | exact HB.out)⟩
              · replace c15 := Bool.eq_false_iff.mpr c15
                subst c15
                have H1 : (some false) = some true := by rw [if_neg (show ¬ (false = true) by decide)] at H; exact H
                clear H
                have H := H1
                clear H1
                exact absurd H (by simp)
            · replace c13 := Bool.eq_false_iff.mpr c13
              subst c13
              have H1 : (some false) = some true := by rw [if_neg (show ¬ (false = true) by decide)] at H; exact H
              clear H
              have H := H1
              clear H1
              exact absurd H (by simp)
          · rw [if_neg c11] at H
            have c11b0 : ((strOfNums t255).toList == ([7, 0] : List UInt8)) = false := beq_eq_false_iff_ne.mpr c11
            have c11b1 : ((strOfNums t255).toList != ([7, 0] : List UInt8)) = true := bne_iff_ne.mpr c11
            exact absurd H (by simp)
        · rw [if_neg c10] at H
          have c10b0 : (t256 == 0) = false := beq_eq_false_iff_ne.mpr c10
          have c10b1 : (t256 != 0) = true := bne_iff_ne.mpr c10
          exact absurd H (by simp)
      · rw [if_neg c9] at H
        have c9b0 : (t249 == 0) = false := beq_eq_false_iff_ne.mpr c9
        have c9b1 : (t249 != 0) = true := bne_iff_ne.mpr c9
        exact absurd H (by simp)
    · rw [if_neg c8] at H
      have c8b0 : (t238 == 8) = false := beq_eq_false_iff_ne.mpr c8
      have c8b1 : (t238 != 8) = true := bne_iff_ne.mpr c8
      exact absurd H (by simp)
  · rw [if_neg c7] at H
    have c7b0 : (t239 == 0) = false := beq_eq_false_iff_ne.mpr c7
    have c7b1 : (t239 != 0) = true := bne_iff_ne.mpr c7
    exact absurd H (by simp)

/-! ### darningref4_Need: function 41 -/
def darningref4_Need.f (a0 : Int) : Option (Int) := if a0 < 1 then (some 0) else (if a0 > 448 then (some 0) else (some (wrap64 (1 + (wrap64 (Int.tdiv (wrap64 (a0 + 7)) 8))))))
set_option maxHeartbeats 8000000 in
set_option maxRecDepth 100000 in
theorem darningref4_Need.calls (a0 : Int) (r : Int) (w : World) (h : darningref4_Need.f a0 = some r) :
    Calls Try.prog 41 #[.int .i64 a0] w fun e w' => e = .returned (.int .i64 r) ∧ Drawn0 w w' := by
  have H : (if a0 < 1 then (some 0) else (if a0 > 448 then (some 0) else (some (wrap64 (1 + (wrap64 (Int.tdiv (wrap64 (a0 + 7)) 8))))))) = some r := h
  clear h
  by_cases c2 : a0 < 1
  · rw [if_pos c2] at H
    have c2b0 : decide (a0 < 1) = true := decide_eq_true c2
    clear c2
    obtain rfl := Option.some.inj H
    go_enter Try.func41, Try.ntmps41
    go_wp2
    go_ret
    exact ⟨by first | rfl | (simp; done) | (simp [*]; done), by repeat (first | exact Drawn0.refl _ | apply Drawn0.step)⟩
  · rw [if_neg c2] at H
    have c2b0 : decide (a0 < 1) = false := decide_eq_false c2
    clear c2
    by_cases c3 : a0 > 448
    · rw [if_pos c3] at H
      have c3b0 : decide (448 < a0) = true := decide_eq_true c3
      clear c3
      obtain rfl := Option.some.inj H
      go_enter Try.func41, Try.ntmps41
      go_wp2
      go_ret
      exact ⟨by first | rfl | (simp; done) | (simp [*]; done), by repeat (first | exact Drawn0.refl _ | apply Drawn0.step)⟩
    · rw [if_neg c3] at H
      have c3b0 : decide (448 < a0) = false := decide_eq_false c3
      clear c3
      obtain rfl := Option.some.inj H
      go_enter Try.func41, Try.ntmps41
      go_wp2
      go_ret
      exact ⟨by first | rfl | (simp; done) | (simp [*]; done), by repeat (first | exact Drawn0.refl _ | apply Drawn0.step)⟩

/-! ### darninglaw19_boolInt: function 44 -/
def darninglaw19_boolInt.f (a0 : Bool) : Option (Int) := if a0 = true then (some 1) else (some 0)
set_option maxHeartbeats 8000000 in
set_option maxRecDepth 100000 in
theorem darninglaw19_boolInt.calls (a0 : Bool) (r : Int) (w : World) (h : darninglaw19_boolInt.f a0 = some r) :
    Calls Try.prog 44 #[.bool a0] w fun e w' => e = .returned (.int .i64 r) ∧ Drawn0 w w' := by
  have H : (if a0 = true then (some 1) else (some 0)) = some r := h
  clear h
  by_cases c2 : a0 = true
  · subst c2
    have H1 : (some 1) = some r := by rw [if_pos rfl] at H; exact H
    clear H
    have H := H1
    clear H1
    obtain rfl := Option.some.inj H
    go_enter Try.func44, Try.ntmps44
    go_wp2
    go_ret
    exact ⟨by first | rfl | (simp; done) | (simp [*]; done), by repeat (first | exact Drawn0.refl _ | apply Drawn0.step)⟩
  · replace c2 := Bool.eq_false_iff.mpr c2
    subst c2
    have H1 : (some 0) = some r := by rw [if_neg (show ¬ (false = true) by decide)] at H; exact H
    clear H
    have H := H1
    clear H1
    obtain rfl := Option.some.inj H
    go_enter Try.func44, Try.ntmps44
    go_wp2
    go_ret
    exact ⟨by first | rfl | (simp; done) | (simp [*]; done), by repeat (first | exact Drawn0.refl _ | apply Drawn0.step)⟩

/-! ### darninglaw19_ImageBounds: function 12 -/
def darninglaw19_ImageBounds.j0 : Nat → Int → List Int → Int → Int → Int → Bool → Option (Bool)
  | 0, _, _, _, _, _, _ => none
  | k + 1, x2, x7, x9, x12, x14, x80 => if x80 = true then (some false) else ((image_Holds.f k x7 x9 x14).bind fun t284 => (if t284 = true then ((image_Holds.f k x7 (wrap64 (x9 - 1)) 1).bind fun t285 => (if t285 = true then (some false) else ((image_Holds.f k x7 x9 (wrap64 ((wrap64 (x12 - x9)) - 7))).bind fun t286 => (if t286 = true then (some false) else ((image_Holds.f k x7 (wrap64 (x12 - 8)) 1).bind fun t287 => (if t287 = true then (some false) else ((image_Holds.f k x7 x12 x2).bind fun t288 => (if t288 = true then ((image_Is.f k x7 x9).bind fun t289 => (if t289 = true then ((image_Is.f k x7 x12).bind fun t290 => (if t290 = true then ((darninglaw19_boolInt.f (decide (x14 > 8))).bind fun t291 => ((image_Is.f k x7 (wrap64 ((wrap64 (x9 + (wrap64 (8 * t291)))) + 1))).bind fun t292 => (if t292 = true then (some false) else ((image_Is.f k x7 (wrap64 (x12 - 8))).bind fun t293 => (if t293 = true then (some false) else ((darninglaw19_awake.f k).bind fun t294 => (some t294))))))) else (some false))) else (some false))) else (some false))))))))) else (some false)))
def darninglaw19_ImageBounds.f (k : Nat) (a0 : Int) (a1 : Int) (a2 : Int) : Option (Bool) := (chain_First.f (wrap64 (8 * (wrap64 (1 + (wrap64 (Int.tmod (IntKind.u64.wrap (a0)) 20))))))).bind fun t262 => ((image_Alloc.f k t262 (wrap64 (1 + (wrap64 (Int.tmod (IntKind.u64.wrap (a1)) 30)))) ([] : List Int)).bind fun bt265 => ((darningref4_Apply.f k t262 bt265.1).bind fun t270 => ((image_Alloc.f k t270 (wrap64 (1 + (wrap64 (Int.tmod (IntKind.u64.wrap (a2)) 30)))) ([] : List Int)).bind fun bt273 => ((darningref4_Apply.f k t270 bt273.1).bind fun t278 => (if bt265.2.2 = 0 then (if bt273.2.2 = 0 then ((darningref4_Need.f (wrap64 (1 + (wrap64 (Int.tmod (IntKind.u64.wrap (a1)) 30))))).bind fun t283 => (if bt273.2.1 = (wrap64 ((wrap64 (bt265.2.1 + (wrap64 ((wrap64 (t283 - 1)) * 8)))) + 8)) then (darninglaw19_ImageBounds.j0 k (wrap64 (1 + (wrap64 (Int.tmod (IntKind.u64.wrap (a2)) 30)))) t278 bt265.2.1 bt273.2.1 (wrap64 ((wrap64 (t283 - 1)) * 8)) false) else (darninglaw19_ImageBounds.j0 k (wrap64 (1 + (wrap64 (Int.tmod (IntKind.u64.wrap (a2)) 30)))) t278 bt265.2.1 bt273.2.1 (wrap64 ((wrap64 (t283 - 1)) * 8)) (bt273.2.1 != (wrap64 ((wrap64 (bt265.2.1 + (wrap64 ((wrap64 (t283 - 1)) * 8)))) + 16)))))) else ((darninglaw19_awake.f k).bind fun t282 => (some t282))) else (if (wrap64 (1 + (wrap64 (Int.tmod (IntKind.u64.wrap (a0)) 20)))) < 2 then ((darninglaw19_awake.f k).bind fun t281 => (some t281)) else (some false)))))))
theorem darninglaw19_ImageBounds.mono_l : ∀ k, (∀ y0 y1 y2 y3 y4 y5, LeO (darninglaw19_ImageBounds.j0 k y0 y1 y2 y3 y4 y5) (darninglaw19_ImageBounds.j0 (k + 1) y0 y1 y2 y3 y4 y5))
  | 0 => fun _ _ _ _ _ _ r h => by simp [darninglaw19_ImageBounds.j0] at h
  | k + 1 => by
    have ih0 := darninglaw19_ImageBounds.mono_l k
    · intro y0 y1 y2 y3 y4 y5
      unfold darninglaw19_ImageBounds.j0
      repeat' first
      | (with_reducible exact ih0 _ _ _ _ _ _)
      | (with_reducible exact darninglaw19_awake.mono _)
      | (with_reducible exact darningref4_Apply.mono _ _ _)
      | (with_reducible exact image_Alloc.mono _ _ _ _)
      | (with_reducible exact image_Holds.mono _ _ _ _)
      | (with_reducible exact image_Is.mono _ _ _)
      | (with_reducible exact LeO.refl _)
      | (with_reducible exact LeO.none _)
      | (with_reducible refine LeO.ite ?_ ?_)
      | (with_reducible refine LeO.bind ?_ (fun _ => ?_))
      | exact ih0 _ _ _ _ _ _
      | exact darninglaw19_awake.mono _
      | exact darningref4_Apply.mono _ _ _
      | exact image_Alloc.mono _ _ _ _
      | exact image_Holds.mono _ _ _ _
      | exact image_Is.mono _ _ _
      | exact LeO.none _
      | refine LeO.ite ?_ ?_
      | refine LeO.bind ?_ (fun _ => ?_)
theorem darninglaw19_ImageBounds.mono : ∀ a0 a1 a2 k, LeO (darninglaw19_ImageBounds.f k a0 a1 a2) (darninglaw19_ImageBounds.f (k + 1) a0 a1 a2) := by
  intro a0 a1 a2 k
  have ih0 := darninglaw19_ImageBounds.mono_l k
  unfold darninglaw19_ImageBounds.f
  repeat' first
      | (with_reducible exact ih0 _ _ _ _ _ _)
      | (with_reducible exact darninglaw19_awake.mono _)
      | (with_reducible exact darningref4_Apply.mono _ _ _)
      | (with_reducible exact image_Alloc.mono _ _ _ _)
      | (with_reducible exact image_Holds.mono _ _ _ _)
      | (with_reducible exact image_Is.mono _ _ _)
      | (with_reducible exact LeO.refl _)
      | (with_reducible exact LeO.none _)
      | (with_reducible refine LeO.ite ?_ ?_)
      | (with_reducible refine LeO.bind ?_ (fun _ => ?_))
      | exact ih0 _ _ _ _ _ _
      | exact darninglaw19_awake.mono _
      | exact darningref4_Apply.mono _ _ _
      | exact image_Alloc.mono _ _ _ _
      | exact image_Holds.mono _ _ _ _
      | exact image_Is.mono _ _ _
      | exact LeO.none _
      | refine LeO.ite ?_ ?_
      | refine LeO.bind ?_ (fun _ => ?_)
set_option maxHeartbeats 8000000 in
set_option maxRecDepth 100000 in
theorem darninglaw19_ImageBounds.calls (k : Nat) (a0 : Int) (a1 : Int) (a2 : Int) (w : World) (h : darninglaw19_ImageBounds.f k a0 a1 a2 = some true) :
    Calls Try.prog 12 #[.int .i64 a0, .int .i64 a1, .int .i64 a2] w fun e w' => e = .returned (.bool true) ∧ Below w.heap.size w w' := by
  have HB := Aside0.mk (Below.refl w.heap.size w)
  have H : ((chain_First.f (wrap64 (8 * (wrap64 (1 + (wrap64 (Int.tmod (IntKind.u64.wrap (a0)) 20))))))).bind fun t262 => ((image_Alloc.f k t262 (wrap64 (1 + (wrap64 (Int.tmod (IntKind.u64.wrap (a1)) 30)))) ([] : List Int)).bind fun bt265 => ((darningref4_Apply.f k t262 bt265.1).bind fun t270 => ((image_Alloc.f k t270 (wrap64 (1 + (wrap64 (Int.tmod (IntKind.u64.wrap (a2)) 30)))) ([] : List Int)).bind fun bt273 => ((darningref4_Apply.f k t270 bt273.1).bind fun t278 => (if bt265.2.2 = 0 then (if bt273.2.2 = 0 then ((darningref4_Need.f (wrap64 (1 + (wrap64 (Int.tmod (IntKind.u64.wrap (a1)) 30))))).bind fun t283 => (if bt273.2.1 = (wrap64 ((wrap64 (bt265.2.1 + (wrap64 ((wrap64 (t283 - 1)) * 8)))) + 8)) then (darninglaw19_ImageBounds.j0 k (wrap64 (1 + (wrap64 (Int.tmod (IntKind.u64.wrap (a2)) 30)))) t278 bt265.2.1 bt273.2.1 (wrap64 ((wrap64 (t283 - 1)) * 8)) false) else (darninglaw19_ImageBounds.j0 k (wrap64 (1 + (wrap64 (Int.tmod (IntKind.u64.wrap (a2)) 30)))) t278 bt265.2.1 bt273.2.1 (wrap64 ((wrap64 (t283 - 1)) * 8)) (bt273.2.1 != (wrap64 ((wrap64 (bt265.2.1 + (wrap64 ((wrap64 (t283 - 1)) * 8)))) + 16)))))) else ((darninglaw19_awake.f k).bind fun t282 => (some t282))) else (if (wrap64 (1 + (wrap64 (Int.tmod (IntKind.u64.wrap (a0)) 20)))) < 2 then ((darninglaw19_awake.f k).bind fun t281 => (some t281)) else (some false)))))))) = some true := h
  clear h
  replace H := Option.bind_eq_some_iff.mp H
  obtain ⟨t262, A40, H⟩ := H
  replace H : ((image_Alloc.f k t262 (wrap64 (1 + (wrap64 (Int.tmod (IntKind.u64.wrap (a1)) 30)))) ([] : List Int)).bind fun bt265 => ((darningref4_Apply.f k t262 bt265.1).bind fun t270 => ((image_Alloc.f k t270 (wrap64 (1 + (wrap64 (Int.tmod (IntKind.u64.wrap (a2)) 30)))) ([] : List Int)).bind fun bt273 => ((darningref4_Apply.f k t270 bt273.1).bind fun t278 => (if bt265.2.2 = 0 then (if bt273.2.2 = 0 then ((darningref4_Need.f (wrap64 (1 + (wrap64 (Int.tmod (IntKind.u64.wrap (a1)) 30))))).bind fun t283 => (if bt273.2.1 = (wrap64 ((wrap64 (bt265.2.1 + (wrap64 ((wrap64 (t283 - 1)) * 8)))) + 8)) then (darninglaw19_ImageBounds.j0 k (wrap64 (1 + (wrap64 (Int.tmod (IntKind.u64.wrap (a2)) 30)))) t278 bt265.2.1 bt273.2.1 (wrap64 ((wrap64 (t283 - 1)) * 8)) false) else (darninglaw19_ImageBounds.j0 k (wrap64 (1 + (wrap64 (Int.tmod (IntKind.u64.wrap (a2)) 30)))) t278 bt265.2.1 bt273.2.1 (wrap64 ((wrap64 (t283 - 1)) * 8)) (bt273.2.1 != (wrap64 ((wrap64 (bt265.2.1 + (wrap64 ((wrap64 (t283 - 1)) * 8)))) + 16)))))) else ((darninglaw19_awake.f k).bind fun t282 => (some t282))) else (if (wrap64 (1 + (wrap64 (Int.tmod (IntKind.u64.wrap (a0)) 20)))) < 2 then ((darninglaw19_awake.f k).bind fun t281 => (some t281)) else (some false))))))) = some true := H
  have A4 := Aside0.mk A40
  clear A40
  replace H := Option.bind_eq_some_iff.mp H
  obtain ⟨⟨t265, t266, t267⟩, A50, H⟩ := H
  replace H : ((darningref4_Apply.f k t262 t265).bind fun t270 => ((image_Alloc.f k t270 (wrap64 (1 + (wrap64 (Int.tmod (IntKind.u64.wrap (a2)) 30)))) ([] : List Int)).bind fun bt273 => ((darningref4_Apply.f k t270 bt273.1).bind fun t278 => (if t267 = 0 then (if bt273.2.2 = 0 then ((darningref4_Need.f (wrap64 (1 + (wrap64 (Int.tmod (IntKind.u64.wrap (a1)) 30))))).bind fun t283 => (if bt273.2.1 = (wrap64 ((wrap64 (t266 + (wrap64 ((wrap64 (t283 - 1)) * 8)))) + 8)) then (darninglaw19_ImageBounds.j0 k (wrap64 (1 + (wrap64 (Int.tmod (IntKind.u64.wrap (a2)) 30)))) t278 t266 bt273.2.1 (wrap64 ((wrap64 (t283 - 1)) * 8)) false) else (darninglaw19_ImageBounds.j0 k (wrap64 (1 + (wrap64 (Int.tmod (IntKind.u64.wrap (a2)) 30)))) t278 t266 bt273.2.1 (wrap64 ((wrap64 (t283 - 1)) * 8)) (bt273.2.1 != (wrap64 ((wrap64 (t266 + (wrap64 ((wrap64 (t283 - 1)) * 8)))) + 16)))))) else ((darninglaw19_awake.f k).bind fun t282 => (some t282))) else (if (wrap64 (1 + (wrap64 (Int.tmod (IntKind.u64.wrap (a0)) 20)))) < 2 then ((darninglaw19_awake.f k).bind fun t281 => (some t281)) else (some false)))))) = some true := H
  have A5 := Aside0.mk A50
  clear A50
  replace H := Option.bind_eq_some_iff.mp H
  obtain ⟨t270, A60, H⟩ := H
  replace H : ((image_Alloc.f k t270 (wrap64 (1 + (wrap64 (Int.tmod (IntKind.u64.wrap (a2)) 30)))) ([] : List Int)).bind fun bt273 => ((darningref4_Apply.f k t270 bt273.1).bind fun t278 => (if t267 = 0 then (if bt273.2.2 = 0 then ((darningref4_Need.f (wrap64 (1 + (wrap64 (Int.tmod (IntKind.u64.wrap (a1)) 30))))).bind fun t283 => (if bt273.2.1 = (wrap64 ((wrap64 (t266 + (wrap64 ((wrap64 (t283 - 1)) * 8)))) + 8)) then (darninglaw19_ImageBounds.j0 k (wrap64 (1 + (wrap64 (Int.tmod (IntKind.u64.wrap (a2)) 30)))) t278 t266 bt273.2.1 (wrap64 ((wrap64 (t283 - 1)) * 8)) false) else (darninglaw19_ImageBounds.j0 k (wrap64 (1 + (wrap64 (Int.tmod (IntKind.u64.wrap (a2)) 30)))) t278 t266 bt273.2.1 (wrap64 ((wrap64 (t283 - 1)) * 8)) (bt273.2.1 != (wrap64 ((wrap64 (t266 + (wrap64 ((wrap64 (t283 - 1)) * 8)))) + 16)))))) else ((darninglaw19_awake.f k).bind fun t282 => (some t282))) else (if (wrap64 (1 + (wrap64 (Int.tmod (IntKind.u64.wrap (a0)) 20)))) < 2 then ((darninglaw19_awake.f k).bind fun t281 => (some t281)) else (some false))))) = some true := H
  have A6 := Aside0.mk A60
  clear A60
  replace H := Option.bind_eq_some_iff.mp H
  obtain ⟨⟨t273, t274, t275⟩, A70, H⟩ := H
  replace H : ((darningref4_Apply.f k t270 t273).bind fun t278 => (if t267 = 0 then (if t275 = 0 then ((darningref4_Need.f (wrap64 (1 + (wrap64 (Int.tmod (IntKind.u64.wrap (a1)) 30))))).bind fun t283 => (if t274 = (wrap64 ((wrap64 (t266 + (wrap64 ((wrap64 (t283 - 1)) * 8)))) + 8)) then (darninglaw19_ImageBounds.j0 k (wrap64 (1 + (wrap64 (Int.tmod (IntKind.u64.wrap (a2)) 30)))) t278 t266 t274 (wrap64 ((wrap64 (t283 - 1)) * 8)) false) else (darninglaw19_ImageBounds.j0 k (wrap64 (1 + (wrap64 (Int.tmod (IntKind.u64.wrap (a2)) 30)))) t278 t266 t274 (wrap64 ((wrap64 (t283 - 1)) * 8)) (t274 != (wrap64 ((wrap64 (t266 + (wrap64 ((wrap64 (t283 - 1)) * 8)))) + 16)))))) else ((darninglaw19_awake.f k).bind fun t282 => (some t282))) else (if (wrap64 (1 + (wrap64 (Int.tmod (IntKind.u64.wrap (a0)) 20)))) < 2 then ((darninglaw19_awake.f k).bind fun t281 => (some t281)) else (some false)))) = some true := H
  have A7 := Aside0.mk A70
  clear A70
  replace H := Option.bind_eq_some_iff.mp H
  obtain ⟨t278, A80, H⟩ := H
  replace H : (if t267 = 0 then (if t275 = 0 then ((darningref4_Need.f (wrap64 (1 + (wrap64 (Int.tmod (IntKind.u64.wrap (a1)) 30))))).bind fun t283 => (if t274 = (wrap64 ((wrap64 (t266 + (wrap64 ((wrap64 (t283 - 1)) * 8)))) + 8)) then (darninglaw19_ImageBounds.j0 k (wrap64 (1 + (wrap64 (Int.tmod (IntKind.u64.wrap (a2)) 30)))) t278 t266 t274 (wrap64 ((wrap64 (t283 - 1)) * 8)) false) else (darninglaw19_ImageBounds.j0 k (wrap64 (1 + (wrap64 (Int.tmod (IntKind.u64.wrap (a2)) 30)))) t278 t266 t274 (wrap64 ((wrap64 (t283 - 1)) * 8)) (t274 != (wrap64 ((wrap64 (t266 + (wrap64 ((wrap64 (t283 - 1)) * 8)))) + 16)))))) else ((darninglaw19_awake.f k).bind fun t282 => (some t282))) else (if (wrap64 (1 + (wrap64 (Int.tmod (IntKind.u64.wrap (a0)) 20)))) < 2 then ((darninglaw19_awake.f k).bind fun t281 => (some t281)) else (some false))) = some true := H
  have A8 := Aside0.mk A80
  clear A80
  by_cases c9 : t267 = 0
  · rw [if_pos c9] at H
    have c9b0 : (t267 == 0) = true := beq_iff_eq.mpr c9
    have c9b1 : (t267 != 0) = false := bne_eq_false_iff_eq.mpr c9
    clear c9
    by_cases c10 : t275 = 0
    · rw [if_pos c10] at H
      have c10b0 : (t275 == 0) = true := beq_iff_eq.mpr c10
      have c10b1 : (t275 != 0) = false := bne_eq_false_iff_eq.mpr c10
      clear c10
      replace H := Option.bind_eq_some_iff.mp H
      obtain ⟨t283, A110, H⟩ := H
      replace H : (if t274 = (wrap64 ((wrap64 (t266 + (wrap64 ((wrap64 (t283 - 1)) * 8)))) + 8)) then (darninglaw19_ImageBounds.j0 k (wrap64 (1 + (wrap64 (Int.tmod (IntKind.u64.wrap (a2)) 30)))) t278 t266 t274 (wrap64 ((wrap64 (t283 - 1)) * 8)) false) else (darninglaw19_ImageBounds.j0 k (wrap64 (1 + (wrap64 (Int.tmod (IntKind.u64.wrap (a2)) 30)))) t278 t266 t274 (wrap64 ((wrap64 (t283 - 1)) * 8)) (t274 != (wrap64 ((wrap64 (t266 + (wrap64 ((wrap64 (t283 - 1)) * 8)))) + 16))))) = some true := H
      have A11 := Aside0.mk A110
      clear A110
      have HC12 := Aside0.mk H
      clear H
      go_enter Try.func12, Try.ntmps12
      go_upto_region 12 with (first | ((with_reducible refine gate_callee (f := 38) rfl ?_); refine goesL_ (some 32) rfl rfl Try.func38 (by kernel_rfl) rfl #[.int .i64 (wrap64 (8 * (wrap64 (1 + (wrap64 (Int.tmod (IntKind.u64.wrap (a0)) 20))))))] rfl (by (try simp only [List.map_toArray, List.map_cons, List.map_nil]); first | done | rfl | (simp only [List.length_drop, List.length_take]; rfl)) ?_; (with_reducible refine (chain_First.calls (wrap64 (8 * (wrap64 (1 + (wrap64 (Int.tmod (IntKind.u64.wrap (a0)) 20)))))) t262 _ A4.out).mono ?_); rintro e w13 ⟨v263, rfl, ho0, hb⟩; refine ⟨_, rfl, ?_⟩; have n0_ := Aside0.mk (Kd.R_lower ho0 (below_size (by repeat (first | (with_reducible first | exact HB.out | apply below_alloc | apply pw_below_drewN | apply below_drew1) | exact HB.out)))); have n1_ := Aside0.mk (below_step (by repeat (first | (with_reducible first | exact HB.out | apply below_alloc | apply pw_below_drewN | apply below_drew1) | exact HB.out)) hb); clear HB; have HO264 := n0_; have HB := n1_; clear n0_ n1_; (try clear hb); (try clear hb2); (try clear hk); (try clear hi); (try clear ho0); obtain ⟨Ao14, co14, eo14⟩ := Kd.R_slice HO264.out; subst eo14) | ((with_reducible refine gate_callee (f := 39) rfl ?_); refine goesL_ (some 36) rfl rfl Try.func39 (by kernel_rfl) rfl #[.slice Ao14 t262.length co14, .int .i64 (wrap64 (1 + (wrap64 (Int.tmod (IntKind.u64.wrap (a1)) 30)))), .slice none 0 0] rfl (by (try simp only [List.map_toArray, List.map_cons, List.map_nil]); first | done | rfl | (simp only [List.length_drop, List.length_take]; rfl)) ?_; (refine (image_Alloc.calls k _ _ t262 (wrap64 (1 + (wrap64 (Int.tmod (IntKind.u64.wrap (a1)) 30)))) _ _ ([] : List Int) t265 t266 t267 _ ?side1 ?side2 ?side3 ?side4 A5.out).mono ?_); (case side1 => repeat (first | exact (Kd.R_reads' HO264.out).2.2 | (with_reducible refine Kd.C_alloc ?_ _) | (with_reducible refine Kd.C_drewN ?_ _) | (with_reducible refine Kd.C_drew ?_))); (case side2 => exact (Kd.R_reads' HO264.out).2.1); (case side3 => exact Kd.C_nil _ _); (case side4 => exact Nat.le_refl _); rintro e w15 ⟨v268, rfl, ho0, hb⟩; refine ⟨_, rfl, ?_⟩; have n0_ := Aside0.mk (Kd.R_below (by (with_reducible repeat (first | apply Kd.R_alloc | apply Kd.R_drewN | apply Kd.R_drew)); exact HO264.out) hb); have n1_ := Aside0.mk (Kd.R_lower ho0 (below_size (by repeat (first | (with_reducible first | exact HB.out | apply below_alloc | apply pw_below_drewN | apply below_drew1) | exact HB.out)))); have n2_ := Aside0.mk (below_step (by repeat (first | (with_reducible first | exact HB.out | apply below_alloc | apply pw_below_drewN | apply below_drew1) | exact HB.out)) hb); clear HO264; clear HB; have HO264 := n0_; have HO269 := n1_; have HB := n2_; clear n0_ n1_ n2_; (try clear hb); (try clear hb2); (try clear hk); (try clear hi); (try clear ho0); obtain ⟨Ao16, co16, eo16⟩ := Kd.R_slice HO269.out; subst eo16) | ((with_reducible refine gate_callee (f := 34) rfl ?_); refine goesL_ (some 42) rfl rfl Try.func34 (by kernel_rfl) rfl #[.slice Ao14 t262.length co14, .slice Ao16 t265.length co16] rfl (by (try simp only [List.map_toArray, List.map_cons, List.map_nil]); first | done | rfl | (simp only [List.length_drop, List.length_take]; rfl)) ?_; (with_reducible refine (darningref4_Apply.calls k _ _ t262 _ _ t265 t270 _ ?side1 ?side2 ?side3 ?side4 A6.out).mono ?_); (case side1 => repeat (first | exact (Kd.R_reads' HO264.out).2.2 | (with_reducible refine Kd.C_alloc ?_ _) | (with_reducible refine Kd.C_drewN ?_ _) | (with_reducible refine Kd.C_drew ?_))); (case side2 => exact (Kd.R_reads' HO264.out).2.1); (case side3 => repeat (first | exact (Kd.R_reads' HO269.out).2.2 | (with_reducible refine Kd.C_alloc ?_ _) | (with_reducible refine Kd.C_drewN ?_ _) | (with_reducible refine Kd.C_drew ?_))); (case side4 => exact (Kd.R_reads' HO269.out).2.1); rintro e w17 ⟨v271, rfl, ho0, hb⟩; refine ⟨_, rfl, ?_⟩; have n0_ := Aside0.mk (Kd.R_elder' (by (with_reducible repeat (first | apply Kd.R_alloc | apply Kd.R_drewN | apply Kd.R_drew)); exact HO264.out) (Kd.R_base ho0) hb); have n1_ := Aside0.mk (Kd.R_below (by (with_reducible repeat (first | apply Kd.R_alloc | apply Kd.R_drewN | apply Kd.R_drew)); exact HO269.out) hb); have n2_ := Aside0.mk (Kd.R_lower (Kd.R_new' ho0 (Kd.R_lt (by (with_reducible repeat (first | apply Kd.R_alloc | apply Kd.R_drewN | apply Kd.R_drew)); exact HO264.out))) (below_size (by repeat (first | (with_reducible first | exact HB.out | apply below_alloc | apply pw_below_drewN | apply below_drew1) | exact HB.out)))); have n3_ := Aside0.mk (below_step (by repeat (first | (with_reducible first | exact HB.out | apply below_alloc | apply pw_below_drewN | apply below_drew1) | exact HB.out)) hb); clear HO264; clear HO269; clear HB; have HO264 := n0_; have HO269 := n1_; have HO272 := n2_; have HB := n3_; clear n0_ n1_ n2_ n3_; (try clear hb); (try clear hb2); (try clear hk); (try clear hi); (try clear ho0); obtain ⟨Ao18, co18, eo18⟩ := Kd.R_slice HO272.out; subst eo18) | ((with_reducible refine gate_callee (f := 39) rfl ?_); refine goesL_ (some 46) rfl rfl Try.func39 (by kernel_rfl) rfl #[.slice Ao18 t270.length co18, .int .i64 (wrap64 (1 + (wrap64 (Int.tmod (IntKind.u64.wrap (a2)) 30)))), .slice none 0 0] rfl (by (try simp only [List.map_toArray, List.map_cons, List.map_nil]); first | done | rfl | (simp only [List.length_drop, List.length_take]; rfl)) ?_; (refine (image_Alloc.calls k _ _ t270 (wrap64 (1 + (wrap64 (Int.tmod (IntKind.u64.wrap (a2)) 30)))) _ _ ([] : List Int) t273 t274 t275 _ ?side1 ?side2 ?side3 ?side4 A7.out).mono ?_); (case side1 => repeat (first | exact (Kd.R_reads' HO272.out).2.2 | (with_reducible refine Kd.C_alloc ?_ _) | (with_reducible refine Kd.C_drewN ?_ _) | (with_reducible refine Kd.C_drew ?_))); (case side2 => exact (Kd.R_reads' HO272.out).2.1); (case side3 => exact Kd.C_nil _ _); (case side4 => exact Nat.le_refl _); rintro e w19 ⟨v276, rfl, ho0, hb⟩; refine ⟨_, rfl, ?_⟩; have n0_ := Aside0.mk (Kd.R_below (by (with_reducible repeat (first | apply Kd.R_alloc | apply Kd.R_drewN | apply Kd.R_drew)); exact HO264.out) hb); have n1_ := Aside0.mk (Kd.R_elder' (by (with_reducible repeat (first | apply Kd.R_alloc | apply Kd.R_drewN | apply Kd.R_drew)); exact HO269.out) (Kd.R_base ho0) hb); have n2_ := Aside0.mk (Kd.R_below (by (with_reducible repeat (first | apply Kd.R_alloc | apply Kd.R_drewN | apply Kd.R_drew)); exact HO272.out) hb); have n3_ := Aside0.mk (Kd.R_lower (Kd.R_new' ho0 (Kd.R_lt (by (with_reducible repeat (first | apply Kd.R_alloc | apply Kd.R_drewN | apply Kd.R_drew)); exact HO269.out))) (below_size (by repeat (first | (with_reducible first | exact HB.out | apply below_alloc | apply pw_below_drewN | apply below_drew1) | exact HB.out)))); have n4_ := Aside0.mk (below_step (by repeat (first | (with_reducible first | exact HB.out | apply below_alloc | apply pw_below_drewN | apply below_drew1) | exact HB.out)) hb); clear HO264; clear HO269; clear HO272; clear HB; have HO264 := n0_; have HO269 := n1_; have HO272 := n2_; have HO277 := n3_; have HB := n4_; clear n0_ n1_ n2_ n3_ n4_; (try clear hb); (try clear hb2); (try clear hk); (try clear hi); (try clear ho0); obtain ⟨Ao20, co20, eo20⟩ := Kd.R_slice HO277.out; subst eo20) | ((with_reducible refine gate_callee (f := 34) rfl ?_); refine goesL_ (some 52) rfl rfl Try.func34 (by kernel_rfl) rfl #[.slice Ao18 t270.length co18, .slice Ao20 t273.length co20] rfl (by (try simp only [List.map_toArray, List.map_cons, List.map_nil]); first | done | rfl | (simp only [List.length_drop, List.length_take]; rfl)) ?_; (with_reducible refine (darningref4_Apply.calls k _ _ t270 _ _ t273 t278 _ ?side1 ?side2 ?side3 ?side4 A8.out).mono ?_); (case side1 => repeat (first | exact (Kd.R_reads' HO272.out).2.2 | (with_reducible refine Kd.C_alloc ?_ _) | (with_reducible refine Kd.C_drewN ?_ _) | (with_reducible refine Kd.C_drew ?_))); (case side2 => exact (Kd.R_reads' HO272.out).2.1); (case side3 => repeat (first | exact (Kd.R_reads' HO277.out).2.2 | (with_reducible refine Kd.C_alloc ?_ _) | (with_reducible refine Kd.C_drewN ?_ _) | (with_reducible refine Kd.C_drew ?_))); (case side4 => exact (Kd.R_reads' HO277.out).2.1); rintro e w21 ⟨v279, rfl, ho0, hb⟩; refine ⟨_, rfl, ?_⟩; have n0_ := Aside0.mk (Kd.R_elder' (by (with_reducible repeat (first | apply Kd.R_alloc | apply Kd.R_drewN | apply Kd.R_drew)); exact HO264.out) (Kd.R_base ho0) hb); have n1_ := Aside0.mk (Kd.R_below (by (with_reducible repeat (first | apply Kd.R_alloc | apply Kd.R_drewN | apply Kd.R_drew)); exact HO269.out) hb); have n2_ := Aside0.mk (Kd.R_elder' (by (with_reducible repeat (first | apply Kd.R_alloc | apply Kd.R_drewN | apply Kd.R_drew)); exact HO272.out) (Kd.R_base ho0) hb); have n3_ := Aside0.mk (Kd.R_below (by (with_reducible repeat (first | apply Kd.R_alloc | apply Kd.R_drewN | apply Kd.R_drew)); exact HO277.out) hb); have n4_ := Aside0.mk (Kd.R_lower (Kd.R_new' (Kd.R_new' ho0 (Kd.R_lt (by (with_reducible repeat (first | apply Kd.R_alloc | apply Kd.R_drewN | apply Kd.R_drew)); exact HO264.out))) (Kd.R_lt (by (with_reducible repeat (first | apply Kd.R_alloc | apply Kd.R_drewN | apply Kd.R_drew)); exact HO272.out))) (below_size (by repeat (first | (with_reducible first | exact HB.out | apply below_alloc | apply pw_below_drewN | apply below_drew1) | exact HB.out)))); have n5_ := Aside0.mk (below_step (by repeat (first | (with_reducible first | exact HB.out | apply below_alloc | apply pw_below_drewN | apply below_drew1) | exact HB.out)) hb); clear HO264; clear HO269; clear HO272; clear HO277; clear HB; have HO264 := n0_; have HO269 := n1_; have HO272 := n2_; have HO277 := n3_; have HO280 := n4_; have HB := n5_; clear n0_ n1_ n2_ n3_ n4_ n5_; (try clear hb); (try clear hb2); (try clear hk); (try clear hi); (try clear ho0)) | ((with_reducible refine gate_callee (f := 41) rfl ?_); refine goesL_ (some 64) rfl rfl Try.func41 (by kernel_rfl) rfl #[.int .i64 (wrap64 (1 + (wrap64 (Int.tmod (IntKind.u64.wrap (a1)) 30))))] rfl (by (try simp only [List.map_toArray, List.map_cons, List.map_nil]); first | done | rfl | (simp only [List.length_drop, List.length_take]; rfl)) ?_; (with_reducible refine (darningref4_Need.calls (wrap64 (1 + (wrap64 (Int.tmod (IntKind.u64.wrap (a1)) 30)))) t283 _ A11.out).mono ?_); rintro e w' ⟨rfl, ⟨nd, rfl⟩⟩; refine ⟨_, rfl, ?_⟩))
      (try simp only [Act.put, List.setIfInBounds_toArray, List.set_cons_zero, List.set_cons_succ])
      go_cut [80] (fun v80 wc => ∃ (kq : Nat) (x80_11 : Bool), v80 = .bool x80_11 ∧ Aside0 (darninglaw19_ImageBounds.j0 kq (wrap64 (1 + (wrap64 (Int.tmod (IntKind.u64.wrap (a2)) 30)))) t278 t266 t274 (wrap64 ((wrap64 (t283 - 1)) * 8)) x80_11 = some true) ∧ Aside0 (kq ≤ k) ∧ Aside0 (Kd.R (Kd.int .u64) 28 wc w.heap.size (fun _ => True) v279 t278) ∧ Aside0 (Below w.heap.size w wc))
      case first =>
        have H := HC12.out
        clear HC12
        by_cases c22 : t274 = (wrap64 ((wrap64 (t266 + (wrap64 ((wrap64 (t283 - 1)) * 8)))) + 8))
        · rw [if_pos c22] at H
          have c22b0 : (t274 == (wrap64 ((wrap64 (t266 + (wrap64 ((wrap64 (t283 - 1)) * 8)))) + 8))) = true := beq_iff_eq.mpr c22
          have c22b1 : (t274 != (wrap64 ((wrap64 (t266 + (wrap64 ((wrap64 (t283 - 1)) * 8)))) + 8))) = false := bne_eq_false_iff_eq.mpr c22
          clear c22
          (first | rw [c22b0] | (simp only [i64_w, i32_w]; rw [c22b0]) | skip)
          have H' := Aside0.mk H
          clear H
          go_wp2
          go_meet
          case rel => exact ⟨_, (false), (by first | rfl | (simp; done) | (simp [*]; done)), H', ⟨by first | omega | exact Nat.le_refl _⟩, ⟨by (with_reducible repeat (first | apply Kd.R_alloc | apply Kd.R_drewN | apply Kd.R_drew)); exact Kd.R_mono HO280.out (fun _ hk => trivial)⟩, ⟨by repeat (first | (with_reducible first | exact HB.out | apply below_alloc | apply pw_below_drewN | apply below_drew1) | exact HB.out)⟩⟩
        · rw [if_neg c22] at H
          have c22b0 : (t274 == (wrap64 ((wrap64 (t266 + (wrap64 ((wrap64 (t283 - 1)) * 8)))) + 8))) = false := beq_eq_false_iff_ne.mpr c22
          have c22b1 : (t274 != (wrap64 ((wrap64 (t266 + (wrap64 ((wrap64 (t283 - 1)) * 8)))) + 8))) = true := bne_iff_ne.mpr c22
          (first | rw [c22b0] | (simp only [i64_w, i32_w]; rw [c22b0]) | skip)
          have H' := Aside0.mk H
          clear H
          go_wp2
          go_meet
          case rel => exact ⟨_, ((t274 != (wrap64 ((wrap64 (t266 + (wrap64 ((wrap64 (t283 - 1)) * 8)))) + 16)))), (by first | rfl | (simp; done) | (simp [*]; done)), H', ⟨by first | omega | exact Nat.le_refl _⟩, ⟨by (with_reducible repeat (first | apply Kd.R_alloc | apply Kd.R_drewN | apply Kd.R_drew)); exact Kd.R_mono HO280.out (fun _ hk => trivial)⟩, ⟨by repeat (first | (with_reducible first | exact HB.out | apply below_alloc | apply pw_below_drewN | apply below_drew1) | exact HB.out)⟩⟩
      case rest =>
        clear HC12
        try clear c1
        try clear c2
        try clear p2
        try clear c3
        try clear c4
        try clear p6
        try clear c9
        try clear c9b0
        try clear c9b1
        try clear c10
        try clear c10b0
        try clear c10b1
        try clear c12
        try clear c22
        try clear c22b0
        try clear c22b1
        obtain ⟨kq, x80_11, rfl, HA, HJ11, HO_7, HB⟩ := hcut
        cases kq with
        | zero => exact absurd HA.out (by simp [darninglaw19_ImageBounds.j0])
        | succ kj11 =>
          have H := HA.out
          clear HA
          simp only [darninglaw19_ImageBounds.j0] at H
          by_cases c23 : x80_11 = true
          · subst c23
            have H1 : (some false) = some true := by rw [if_pos rfl] at H; exact H
            clear H
            have H := H1
            clear H1
            exact absurd H (by simp)
          · replace c23 := Bool.eq_false_iff.mpr c23
            subst c23
            have H1 : ((image_Holds.f kj11 t278 t266 (wrap64 ((wrap64 (t283 - 1)) * 8))).bind fun t284 => (if t284 = true then ((image_Holds.f kj11 t278 (wrap64 (t266 - 1)) 1).bind fun t285 => (if t285 = true then (some false) else ((image_Holds.f kj11 t278 t266 (wrap64 ((wrap64 (t274 - t266)) - 7))).bind fun t286 => (if t286 = true then (some false) else ((image_Holds.f kj11 t278 (wrap64 (t274 - 8)) 1).bind fun t287 => (if t287 = true then (some false) else ((image_Holds.f kj11 t278 t274 (wrap64 (1 + (wrap64 (Int.tmod (IntKind.u64.wrap (a2)) 30))))).bind fun t288 => (if t288 = true then ((image_Is.f kj11 t278 t266).bind fun t289 => (if t289 = true then ((image_Is.f kj11 t278 t274).bind fun t290 => (if t290 = true then ((darninglaw19_boolInt.f (decide ((wrap64 ((wrap64 (t283 - 1)) * 8)) > 8))).bind fun t291 => ((image_Is.f kj11 t278 (wrap64 ((wrap64 (t266 + (wrap64 (8 * t291)))) + 1))).bind fun t292 => (if t292 = true then (some false) else ((image_Is.f kj11 t278 (wrap64 (t274 - 8))).bind fun t293 => (if t293 = true then (some false) else ((darninglaw19_awake.f kj11).bind fun t294 => (some t294))))))) else (some false))) else (some false))) else (some false))))))))) else (some false))) = some true := by rw [if_neg (show ¬ (false = true) by decide)] at H; exact H
            clear H
            have H := H1
            clear H1
            replace H := Option.bind_eq_some_iff.mp H
            obtain ⟨t284, A240, H⟩ := H
            replace H : (if t284 = true then ((image_Holds.f kj11 t278 (wrap64 (t266 - 1)) 1).bind fun t285 => (if t285 = true then (some false) else ((image_Holds.f kj11 t278 t266 (wrap64 ((wrap64 (t274 - t266)) - 7))).bind fun t286 => (if t286 = true then (some false) else ((image_Holds.f kj11 t278 (wrap64 (t274 - 8)) 1).bind fun t287 => (if t287 = true then (some false) else ((image_Holds.f kj11 t278 t274 (wrap64 (1 + (wrap64 (Int.tmod (IntKind.u64.wrap (a2)) 30))))).bind fun t288 => (if t288 = true then ((image_Is.f kj11 t278 t266).bind fun t289 => (if t289 = true then ((image_Is.f kj11 t278 t274).bind fun t290 => (if t290 = true then ((darninglaw19_boolInt.f (decide ((wrap64 ((wrap64 (t283 - 1)) * 8)) > 8))).bind fun t291 => ((image_Is.f kj11 t278 (wrap64 ((wrap64 (t266 + (wrap64 (8 * t291)))) + 1))).bind fun t292 => (if t292 = true then (some false) else ((image_Is.f kj11 t278 (wrap64 (t274 - 8))).bind fun t293 => (if t293 = true then (some false) else ((darninglaw19_awake.f kj11).bind fun t294 => (some t294))))))) else (some false))) else (some false))) else (some false))))))))) else (some false)) = some true := H
            have A24 := Aside0.mk A240
            clear A240
            by_cases c25 : t284 = true
            · subst c25
              have H1 : ((image_Holds.f kj11 t278 (wrap64 (t266 - 1)) 1).bind fun t285 => (if t285 = true then (some false) else ((image_Holds.f kj11 t278 t266 (wrap64 ((wrap64 (t274 - t266)) - 7))).bind fun t286 => (if t286 = true then (some false) else ((image_Holds.f kj11 t278 (wrap64 (t274 - 8)) 1).bind fun t287 => (if t287 = true then (some false) else ((image_Holds.f kj11 t278 t274 (wrap64 (1 + (wrap64 (Int.tmod (IntKind.u64.wrap (a2)) 30))))).bind fun t288 => (if t288 = true then ((image_Is.f kj11 t278 t266).bind fun t289 => (if t289 = true then ((image_Is.f kj11 t278 t274).bind fun t290 => (if t290 = true then ((darninglaw19_boolInt.f (decide ((wrap64 ((wrap64 (t283 - 1)) * 8)) > 8))).bind fun t291 => ((image_Is.f kj11 t278 (wrap64 ((wrap64 (t266 + (wrap64 (8 * t291)))) + 1))).bind fun t292 => (if t292 = true then (some false) else ((image_Is.f kj11 t278 (wrap64 (t274 - 8))).bind fun t293 => (if t293 = true then (some false) else ((darninglaw19_awake.f kj11).bind fun t294 => (some t294))))))) else (some false))) else (some false))) else (some false))))))))) = some true := by rw [if_pos rfl] at H; exact H
              clear H
              have H := H1
              clear H1
              replace H := Option.bind_eq_some_iff.mp H
              obtain ⟨t285, A260, H⟩ := H
              replace H : (if t285 = true then (some false) else ((image_Holds.f kj11 t278 t266 (wrap64 ((wrap64 (t274 - t266)) - 7))).bind fun t286 => (if t286 = true then (some false) else ((image_Holds.f kj11 t278 (wrap64 (t274 - 8)) 1).bind fun t287 => (if t287 = true then (some false) else ((image_Holds.f kj11 t278 t274 (wrap64 (1 + (wrap64 (Int.tmod (IntKind.u64.wrap (a2)) 30))))).bind fun t288 => (if t288 = true then ((image_Is.f kj11 t278 t266).bind fun t289 => (if t289 = true then ((image_Is.f kj11 t278 t274).bind fun t290 => (if t290 = true then ((darninglaw19_boolInt.f (decide ((wrap64 ((wrap64 (t283 - 1)) * 8)) > 8))).bind fun t291 => ((image_Is.f kj11 t278 (wrap64 ((wrap64 (t266 + (wrap64 (8 * t291)))) + 1))).bind fun t292 => (if t292 = true then (some false) else ((image_Is.f kj11 t278 (wrap64 (t274 - 8))).bind fun t293 => (if t293 = true then (some false) else ((darninglaw19_awake.f kj11).bind fun t294 => (some t294))))))) else (some false))) else (some false))) else (some false)))))))) = some true := H
              have A26 := Aside0.mk A260
              clear A260
              by_cases c27 : t285 = true
              · subst c27
                have H1 : (some false) = some true := by rw [if_pos rfl] at H; exact H
                clear H
                have H := H1
                clear H1
                exact absurd H (by simp)
              · replace c27 := Bool.eq_false_iff.mpr c27
                subst c27
                have H1 : ((image_Holds.f kj11 t278 t266 (wrap64 ((wrap64 (t274 - t266)) - 7))).bind fun t286 => (if t286 = true then (some false) else ((image_Holds.f kj11 t278 (wrap64 (t274 - 8)) 1).bind fun t287 => (if t287 = true then (some false) else ((image_Holds.f kj11 t278 t274 (wrap64 (1 + (wrap64 (Int.tmod (IntKind.u64.wrap (a2)) 30))))).bind fun t288 => (if t288 = true then ((image_Is.f kj11 t278 t266).bind fun t289 => (if t289 = true then ((image_Is.f kj11 t278 t274).bind fun t290 => (if t290 = true then ((darninglaw19_boolInt.f (decide ((wrap64 ((wrap64 (t283 - 1)) * 8)) > 8))).bind fun t291 => ((image_Is.f kj11 t278 (wrap64 ((wrap64 (t266 + (wrap64 (8 * t291)))) + 1))).bind fun t292 => (if t292 = true then (some false) else ((image_Is.f kj11 t278 (wrap64 (t274 - 8))).bind fun t293 => (if t293 = true then (some false) else ((darninglaw19_awake.f kj11).bind fun t294 => (some t294))))))) else (some false))) else (some false))) else (some false))))))) = some true := by rw [if_neg (show ¬ (false = true) by decide)] at H; exact H
                clear H
                have H := H1
                clear H1
                replace H := Option.bind_eq_some_iff.mp H
                obtain ⟨t286, A280, H⟩ := H
                replace H : (if t286 = true then (some false) else ((image_Holds.f kj11 t278 (wrap64 (t274 - 8)) 1).bind fun t287 => (if t287 = true then (some false) else ((image_Holds.f kj11 t278 t274 (wrap64 (1 + (wrap64 (Int.tmod (IntKind.u64.wrap (a2)) 30))))).bind fun t288 => (if t288 = true then ((image_Is.f kj11 t278 t266).bind fun t289 => (if t289 = true then ((image_Is.f kj11 t278 t274).bind fun t290 => (if t290 = true then ((darninglaw19_boolInt.f (decide ((wrap64 ((wrap64 (t283 - 1)) * 8)) > 8))).bind fun t291 => ((image_Is.f kj11 t278 (wrap64 ((wrap64 (t266 + (wrap64 (8 * t291)))) + 1))).bind fun t292 => (if t292 = true then (some false) else ((image_Is.f kj11 t278 (wrap64 (t274 - 8))).bind fun t293 => (if t293 = true then (some false) else ((darninglaw19_awake.f kj11).bind fun t294 => (some t294))))))) else (some false))) else (some false))) else (some false)))))) = some true := H
                have A28 := Aside0.mk A280
                clear A280
                by_cases c29 : t286 = true
                · subst c29
                  have H1 : (some false) = some true := by rw [if_pos rfl] at H; exact H
                  clear H
                  have H := H1
                  clear H1
                  exact absurd H (by simp)
                · replace c29 := Bool.eq_false_iff.mpr c29
                  subst c29
                  have H1 : ((image_Holds.f kj11 t278 (wrap64 (t274 - 8)) 1).bind fun t287 => (if t287 = true then (some false) else ((image_Holds.f kj11 t278 t274 (wrap64 (1 + (wrap64 (Int.tmod (IntKind.u64.wrap (a2)) 30))))).bind fun t288 => (if t288 = true then ((image_Is.f kj11 t278 t266).bind fun t289 => (if t289 = true then ((image_Is.f kj11 t278 t274).bind fun t290 => (if t290 = true then ((darninglaw19_boolInt.f (decide ((wrap64 ((wrap64 (t283 - 1)) * 8)) > 8))).bind fun t291 => ((image_Is.f kj11 t278 (wrap64 ((wrap64 (t266 + (wrap64 (8 * t291)))) + 1))).bind fun t292 => (if t292 = true then (some false) else ((image_Is.f kj11 t278 (wrap64 (t274 - 8))).bind fun t293 => (if t293 = true then (some false) else ((darninglaw19_awake.f kj11).bind fun t294 => (some t294))))))) else (some false))) else (some false))) else (some false))))) = some true := by rw [if_neg (show ¬ (false = true) by decide)] at H; exact H
                  clear H
                  have H := H1
                  clear H1
                  replace H := Option.bind_eq_some_iff.mp H
                  obtain ⟨t287, A300, H⟩ := H
                  replace H : (if t287 = true then (some false) else ((image_Holds.f kj11 t278 t274 (wrap64 (1 + (wrap64 (Int.tmod (IntKind.u64.wrap (a2)) 30))))).bind fun t288 => (if t288 = true then ((image_Is.f kj11 t278 t266).bind fun t289 => (if t289 = true then ((image_Is.f kj11 t278 t274).bind fun t290 => (if t290 = true then ((darninglaw19_boolInt.f (decide ((wrap64 ((wrap64 (t283 - 1)) * 8)) > 8))).bind fun t291 => ((image_Is.f kj11 t278 (wrap64 ((wrap64 (t266 + (wrap64 (8 * t291)))) + 1))).bind fun t292 => (if t292 = true then (some false) else ((image_Is.f kj11 t278 (wrap64 (t274 - 8))).bind fun t293 => (if t293 = true then (some false) else ((darninglaw19_awake.f kj11).bind fun t294 => (some t294))))))) else (some false))) else (some false))) else (some false)))) = some true := H
                  have A30 := Aside0.mk A300
                  clear A300
                  by_cases c31 : t287 = true
                  · subst c31
                    have H1 : (some false) = some true := by rw [if_pos rfl] at H; exact H
                    clear H
                    have H := H1
                    clear H1
                    exact absurd H (by simp)
                  · replace c31 := Bool.eq_false_iff.mpr c31
                    subst c31
                    have H1 : ((image_Holds.f kj11 t278 t274 (wrap64 (1 + (wrap64 (Int.tmod (IntKind.u64.wrap (a2)) 30))))).bind fun t288 => (if t288 = true then ((image_Is.f kj11 t278 t266).bind fun t289 => (if t289 = true then ((image_Is.f kj11 t278 t274).bind fun t290 => (if t290 = true then ((darninglaw19_boolInt.f (decide ((wrap64 ((wrap64 (t283 - 1)) * 8)) > 8))).bind fun t291 => ((image_Is.f kj11 t278 (wrap64 ((wrap64 (t266 + (wrap64 (8 * t291)))) + 1))).bind fun t292 => (if t292 = true then (some false) else ((image_Is.f kj11 t278 (wrap64 (t274 - 8))).bind fun t293 => (if t293 = true then (some false) else ((darninglaw19_awake.f kj11).bind fun t294 => (some t294))))))) else (some false))) else (some false))) else (some false))) = some true := by rw [if_neg (show ¬ (false = true) by decide)] at H; exact H
                    clear H
                    have H := H1
                    clear H1
                    replace H := Option.bind_eq_some_iff.mp H
                    obtain ⟨t288, A320, H⟩ := H
                    replace H : (if t288 = true then ((image_Is.f kj11 t278 t266).bind fun t289 => (if t289 = true then ((image_Is.f kj11 t278 t274).bind fun t290 => (if t290 = true then ((darninglaw19_boolInt.f (decide ((wrap64 ((wrap64 (t283 - 1)) * 8)) > 8))).bind fun t291 => ((image_Is.f kj11 t278 (wrap64 ((wrap64 (t266 + (wrap64 (8 * t291)))) + 1))).bind fun t292 => (if t292 = true then (some false) else ((image_Is.f kj11 t278 (wrap64 (t274 - 8))).bind fun t293 => (if t293 = true then (some false) else ((darninglaw19_awake.f kj11).bind fun t294 => (some t294))))))) else (some false))) else (some false))) else (some false)) = some true := H
                    have A32 := Aside0.mk A320
                    clear A320
                    by_cases c33 : t288 = true
                    · subst c33
                      have H1 : ((image_Is.f kj11 t278 t266).bind fun t289 => (if t289 = true then ((image_Is.f kj11 t278 t274).bind fun t290 => (if t290 = true then ((darninglaw19_boolInt.f (decide ((wrap64 ((wrap64 (t283 - 1)) * 8)) > 8))).bind fun t291 => ((image_Is.f kj11 t278 (wrap64 ((wrap64 (t266 + (wrap64 (8 * t291)))) + 1))).bind fun t292 => (if t292 = true then (some false) else ((image_Is.f kj11 t278 (wrap64 (t274 - 8))).bind fun t293 => (if t293 = true then (some false) else ((darninglaw19_awake.f kj11).bind fun t294 => (some t294))))))) else (some false))) else (some false))) = some true := by rw [if_pos rfl] at H; exact H
                      clear H
                      have H := H1
                      clear H1
                      replace H := Option.bind_eq_some_iff.mp H
                      obtain ⟨t289, A340, H⟩ := H
                      replace H : (if t289 = true then ((image_Is.f kj11 t278 t274).bind fun t290 => (if t290 = true then ((darninglaw19_boolInt.f (decide ((wrap64 ((wrap64 (t283 - 1)) * 8)) > 8))).bind fun t291 => ((image_Is.f kj11 t278 (wrap64 ((wrap64 (t266 + (wrap64 (8 * t291)))) + 1))).bind fun t292 => (if t292 = true then (some false) else ((image_Is.f kj11 t278 (wrap64 (t274 - 8))).bind fun t293 => (if t293 = true then (some false) else ((darninglaw19_awake.f kj11).bind fun t294 => (some t294))))))) else (some false))) else (some false)) = some true := H
                      have A34 := Aside0.mk A340
                      clear A340
                      by_cases c35 : t289 = true
                      · subst c35
                        have H1 : ((image_Is.f kj11 t278 t274).bind fun t290 => (if t290 = true then ((darninglaw19_boolInt.f (decide ((wrap64 ((wrap64 (t283 - 1)) * 8)) > 8))).bind fun t291 => ((image_Is.f kj11 t278 (wrap64 ((wrap64 (t266 + (wrap64 (8 * t291)))) + 1))).bind fun t292 => (if t292 = true then (some false) else ((image_Is.f kj11 t278 (wrap64 (t274 - 8))).bind fun t293 => (if t293 = true then (some false) else ((darninglaw19_awake.f kj11).bind fun t294 => (some t294))))))) else (some false))) = some true := by rw [if_pos rfl] at H; exact H
                        clear H
                        have H := H1
                        clear H1
                        replace H := Option.bind_eq_some_iff.mp H
                        obtain ⟨t290, A360, H⟩ := H
                        replace H : (if t290 = true then ((darninglaw19_boolInt.f (decide ((wrap64 ((wrap64 (t283 - 1)) * 8)) > 8))).bind fun t291 => ((image_Is.f kj11 t278 (wrap64 ((wrap64 (t266 + (wrap64 (8 * t291)))) + 1))).bind fun t292 => (if t292 = true then (some false) else ((image_Is.f kj11 t278 (wrap64 (t274 - 8))).bind fun t293 => (if t293 = true then (some false) else ((darninglaw19_awake.f kj11).bind fun t294 => (some t294))))))) else (some false)) = some true := H
                        have A36 := Aside0.mk A360
                        clear A360
                        by_cases c37 : t290 = true
                        · subst c37
                          have H1 : ((darninglaw19_boolInt.f (decide ((wrap64 ((wrap64 (t283 - 1)) * 8)) > 8))).bind fun t291 => ((image_Is.f kj11 t278 (wrap64 ((wrap64 (t266 + (wrap64 (8 * t291)))) + 1))).bind fun t292 => (if t292 = true then (some false) else ((image_Is.f kj11 t278 (wrap64 (t274 - 8))).bind fun t293 => (if t293 = true then (some false) else ((darninglaw19_awake.f kj11).bind fun t294 => (some t294))))))) = some true := by rw [if_pos rfl] at H; exact H
                          clear H
                          have H := H1
                          clear H1
                          replace H := Option.bind_eq_some_iff.mp H
                          obtain ⟨t291, A380, H⟩ := H
                          replace H : ((image_Is.f kj11 t278 (wrap64 ((wrap64 (t266 + (wrap64 (8 * t291)))) + 1))).bind fun t292 => (if t292 = true then (some false) else ((image_Is.f kj11 t278 (wrap64 (t274 - 8))).bind fun t293 => (if t293 = true then (some false) else ((darninglaw19_awake.f kj11).bind fun t294 => (some t294)))))) = some true := H
                          have A38 := Aside0.mk A380
                          clear A380
                          replace H := Option.bind_eq_some_iff.mp H
                          obtain ⟨t292, A390, H⟩ := H
                          replace H : (if t292 = true then (some false) else ((image_Is.f kj11 t278 (wrap64 (t274 - 8))).bind fun t293 => (if t293 = true then (some false) else ((darninglaw19_awake.f kj11).bind fun t294 => (some t294))))) = some true := H
                          have A39 := Aside0.mk A390
                          clear A390
                          by_cases c40 : t292 = true
                          · subst c40
                            have H1 : (some false) = some true := by rw [if_pos rfl] at H; exact H
                            clear H
                            have H := H1
                            clear H1
                            exact absurd H (by simp)
                          · replace c40 := Bool.eq_false_iff.mpr c40
                            subst c40
                            have H1 : ((image_Is.f kj11 t278 (wrap64 (t274 - 8))).bind fun t293 => (if t293 = true then (some false) else ((darninglaw19_awake.f kj11).bind fun t294 => (some t294)))) = some true := by rw [if_neg (show ¬ (false = true) by decide)] at H; exact H
                            clear H
                            have H := H1
                            clear H1
                            replace H := Option.bind_eq_some_iff.mp H
                            obtain ⟨t293, A410, H⟩ := H
                            replace H : (if t293 = true then (some false) else ((darninglaw19_awake.f kj11).bind fun t294 => (some t294))) = some true := H
                            have A41 := Aside0.mk A410
                            clear A410
                            by_cases c42 : t293 = true
                            · subst c42
                              have H1 : (some false) = some true := by rw [if_pos rfl] at H; exact H
                              clear H
                              have H := H1
                              clear H1
                              exact absurd H (by simp)
                            · replace c42 := Bool.eq_false_iff.mpr c42
                              subst c42
                              have H1 : ((darninglaw19_awake.f kj11).bind fun t294 => (some t294)) = some true := by rw [if_neg (show ¬ (false = true) by decide)] at H; exact H
                              clear H
                              have H := H1
                              clear H1
                              replace H := Option.bind_eq_some_iff.mp H
                              obtain ⟨t294, A430, H⟩ := H
                              replace H : (some t294) = some true := H
                              have A43 := Aside0.mk A430
                              clear A430
                              obtain rfl : t294 = true := Option.some.inj H
                              obtain ⟨Ao44, co44, eo44⟩ := Kd.R_slice HO_7.out
                              subst eo44
                              go_wp2_with (first | (go_at_call 42; (with_reducible refine (image_Holds.calls kj11 _ _ t278 t266 (wrap64 ((wrap64 (t283 - 1)) * 8)) true _ ?side1 ?side2 A24.out).mono ?_); (case side1 => repeat (first | exact (Kd.R_reads' HO_7.out).2.2 | (with_reducible refine Kd.C_alloc ?_ _) | (with_reducible refine Kd.C_drewN ?_ _) | (with_reducible refine Kd.C_drew ?_))); (case side2 => exact (Kd.R_reads' HO_7.out).2.1); rintro e w45 ⟨rfl, hb⟩; have n0_ := Aside0.mk (Kd.R_below (by (with_reducible repeat (first | apply Kd.R_alloc | apply Kd.R_drewN | apply Kd.R_drew)); exact HO_7.out) hb); have n1_ := Aside0.mk (below_step (by repeat (first | (with_reducible first | exact HB.out | apply below_alloc | apply pw_below_drewN | apply below_drew1) | exact HB.out)) hb); clear HO_7; clear HB; have HO_7 := n0_; have HB := n1_; clear n0_ n1_; (try clear hb); (try clear hb2); (try clear hk); (try clear hi)) | (go_at_call 42; (with_reducible refine (image_Holds.calls kj11 _ _ t278 (wrap64 (t266 - 1)) 1 false _ ?side1 ?side2 A26.out).mono ?_); (case side1 => repeat (first | exact (Kd.R_reads' HO_7.out).2.2 | (with_reducible refine Kd.C_alloc ?_ _) | (with_reducible refine Kd.C_drewN ?_ _) | (with_reducible refine Kd.C_drew ?_))); (case side2 => exact (Kd.R_reads' HO_7.out).2.1); rintro e w46 ⟨rfl, hb⟩; have n0_ := Aside0.mk (Kd.R_below (by (with_reducible repeat (first | apply Kd.R_alloc | apply Kd.R_drewN | apply Kd.R_drew)); exact HO_7.out) hb); have n1_ := Aside0.mk (below_step (by repeat (first | (with_reducible first | exact HB.out | apply below_alloc | apply pw_below_drewN | apply below_drew1) | exact HB.out)) hb); clear HO_7; clear HB; have HO_7 := n0_; have HB := n1_; clear n0_ n1_; (try clear hb); (try clear hb2); (try clear hk); (try clear hi)) | (go_at_call 42; (with_reducible refine (image_Holds.calls kj11 _ _ t278 t266 (wrap64 ((wrap64 (t274 - t266)) - 7)) false _ ?side1 ?side2 A28.out).mono ?_); (case side1 => repeat (first | exact (Kd.R_reads' HO_7.out).2.2 | (with_reducible refine Kd.C_alloc ?_ _) | (with_reducible refine Kd.C_drewN ?_ _) | (with_reducible refine Kd.C_drew ?_))); (case side2 => exact (Kd.R_reads' HO_7.out).2.1); rintro e w47 ⟨rfl, hb⟩; have n0_ := Aside0.mk (Kd.R_below (by (with_reducible repeat (first | apply Kd.R_alloc | apply Kd.R_drewN | apply Kd.R_drew)); exact HO_7.out) hb); have n1_ := Aside0.mk (below_step (by repeat (first | (with_reducible first | exact HB.out | apply below_alloc | apply pw_below_drewN | apply below_drew1) | exact HB.out)) hb); clear HO_7; clear HB; have HO_7 := n0_; have HB := n1_; clear n0_ n1_; (try clear hb); (try clear hb2); (try clear hk); (try clear hi)) | (go_at_call 42; (with_reducible refine (image_Holds.calls kj11 _ _ t278 (wrap64 (t274 - 8)) 1 false _ ?side1 ?side2 A30.out).mono ?_); (case side1 => repeat (first | exact (Kd.R_reads' HO_7.out).2.2 | (with_reducible refine Kd.C_alloc ?_ _) | (with_reducible refine Kd.C_drewN ?_ _) | (with_reducible refine Kd.C_drew ?_))); (case side2 => exact (Kd.R_reads' HO_7.out).2.1); rintro e w48 ⟨rfl, hb⟩; have n0_ := Aside0.mk (Kd.R_below (by (with_reducible repeat (first | apply Kd.R_alloc | apply Kd.R_drewN | apply Kd.R_drew)); exact HO_7.out) hb); have n1_ := Aside0.mk (below_step (by repeat (first | (with_reducible first | exact HB.out | apply below_alloc | apply pw_below_drewN | apply below_drew1) | exact HB.out)) hb); clear HO_7; clear HB; have HO_7 := n0_; have HB := n1_; clear n0_ n1_; (try clear hb); (try clear hb2); (try clear hk); (try clear hi)) | (go_at_call 42; (with_reducible refine (image_Holds.calls kj11 _ _ t278 t274 (wrap64 (1 + (wrap64 (Int.tmod (IntKind.u64.wrap (a2)) 30)))) true _ ?side1 ?side2 A32.out).mono ?_); (case side1 => repeat (first | exact (Kd.R_reads' HO_7.out).2.2 | (with_reducible refine Kd.C_alloc ?_ _) | (with_reducible refine Kd.C_drewN ?_ _) | (with_reducible refine Kd.C_drew ?_))); (case side2 => exact (Kd.R_reads' HO_7.out).2.1); rintro e w49 ⟨rfl, hb⟩; have n0_ := Aside0.mk (Kd.R_below (by (with_reducible repeat (first | apply Kd.R_alloc | apply Kd.R_drewN | apply Kd.R_drew)); exact HO_7.out) hb); have n1_ := Aside0.mk (below_step (by repeat (first | (with_reducible first | exact HB.out | apply below_alloc | apply pw_below_drewN | apply below_drew1) | exact HB.out)) hb); clear HO_7; clear HB; have HO_7 := n0_; have HB := n1_; clear n0_ n1_; (try clear hb); (try clear hb2); (try clear hk); (try clear hi)) | (go_at_call 43; (with_reducible refine (image_Is.calls kj11 _ _ t278 t266 true _ ?side1 ?side2 A34.out).mono ?_); (case side1 => repeat (first | exact (Kd.R_reads' HO_7.out).2.2 | (with_reducible refine Kd.C_alloc ?_ _) | (with_reducible refine Kd.C_drewN ?_ _) | (with_reducible refine Kd.C_drew ?_))); (case side2 => exact (Kd.R_reads' HO_7.out).2.1); rintro e w50 ⟨rfl, hb⟩; have n0_ := Aside0.mk (Kd.R_below (by (with_reducible repeat (first | apply Kd.R_alloc | apply Kd.R_drewN | apply Kd.R_drew)); exact HO_7.out) hb); have n1_ := Aside0.mk (below_step (by repeat (first | (with_reducible first | exact HB.out | apply below_alloc | apply pw_below_drewN | apply below_drew1) | exact HB.out)) hb); clear HO_7; clear HB; have HO_7 := n0_; have HB := n1_; clear n0_ n1_; (try clear hb); (try clear hb2); (try clear hk); (try clear hi)) | (go_at_call 43; (with_reducible refine (image_Is.calls kj11 _ _ t278 t274 true _ ?side1 ?side2 A36.out).mono ?_); (case side1 => repeat (first | exact (Kd.R_reads' HO_7.out).2.2 | (with_reducible refine Kd.C_alloc ?_ _) | (with_reducible refine Kd.C_drewN ?_ _) | (with_reducible refine Kd.C_drew ?_))); (case side2 => exact (Kd.R_reads' HO_7.out).2.1); rintro e w51 ⟨rfl, hb⟩; have n0_ := Aside0.mk (Kd.R_below (by (with_reducible repeat (first | apply Kd.R_alloc | apply Kd.R_drewN | apply Kd.R_drew)); exact HO_7.out) hb); have n1_ := Aside0.mk (below_step (by repeat (first | (with_reducible first | exact HB.out | apply below_alloc | apply pw_below_drewN | apply below_drew1) | exact HB.out)) hb); clear HO_7; clear HB; have HO_7 := n0_; have HB := n1_; clear n0_ n1_; (try clear hb); (try clear hb2); (try clear hk); (try clear hi)) | (go_at_call 44; (with_reducible refine (darninglaw19_boolInt.calls (decide ((wrap64 ((wrap64 (t283 - 1)) * 8)) > 8)) t291 _ A38.out).mono ?_); rintro e w' ⟨rfl, ⟨nd, rfl⟩⟩) | (go_at_call 43; (with_reducible refine (image_Is.calls kj11 _ _ t278 (wrap64 ((wrap64 (t266 + (wrap64 (8 * t291)))) + 1)) false _ ?side1 ?side2 A39.out).mono ?_); (case side1 => repeat (first | exact (Kd.R_reads' HO_7.out).2.2 | (with_reducible refine Kd.C_alloc ?_ _) | (with_reducible refine Kd.C_drewN ?_ _) | (with_reducible refine Kd.C_drew ?_))); (case side2 => exact (Kd.R_reads' HO_7.out).2.1); rintro e w52 ⟨rfl, hb⟩; have n0_ := Aside0.mk (Kd.R_below (by (with_reducible repeat (first | apply Kd.R_alloc | apply Kd.R_drewN | apply Kd.R_drew)); exact HO_7.out) hb); have n1_ := Aside0.mk (below_step (by repeat (first | (with_reducible first | exact HB.out | apply below_alloc | apply pw_below_drewN | apply below_drew1) | exact HB.out)) hb); clear HO_7; clear HB; have HO_7 := n0_; have HB := n1_; clear n0_ n1_; (try clear hb); (try clear hb2); (try clear hk); (try clear hi)) | (go_at_call 43; (with_reducible refine (image_Is.calls kj11 _ _ t278 (wrap64 (t274 - 8)) false _ ?side1 ?side2 A41.out).mono ?_); (case side1 => repeat (first | exact (Kd.R_reads' HO_7.out).2.2 | (with_reducible refine Kd.C_alloc ?_ _) | (with_reducible refine Kd.C_drewN ?_ _) | (with_reducible refine Kd.C_drew ?_))); (case side2 => exact (Kd.R_reads' HO_7.out).2.1); rintro e w53 ⟨rfl, hb⟩; have n0_ := Aside0.mk (Kd.R_below (by (with_reducible repeat (first | apply Kd.R_alloc | apply Kd.R_drewN | apply Kd.R_drew)); exact HO_7.out) hb); have n1_ := Aside0.mk (below_step (by repeat (first | (with_reducible first | exact HB.out | apply below_alloc | apply pw_below_drewN | apply below_drew1) | exact HB.out)) hb); clear HO_7; clear HB; have HO_7 := n0_; have HB := n1_; clear n0_ n1_; (try clear hb); (try clear hb2); (try clear hk); (try clear hi)) | (go_at_call 40; (with_reducible refine (darninglaw19_awake.calls kj11   _ A43.out).mono ?_); rintro e w54 ⟨rfl, hb⟩; have n0_ := Aside0.mk (Kd.R_below (by (with_reducible repeat (first | apply Kd.R_alloc | apply Kd.R_drewN | apply Kd.R_drew)); exact HO_7.out) hb); have n1_ := Aside0.mk (below_step (by repeat (first | (with_reducible first | exact HB.out | apply below_alloc | apply pw_below_drewN | apply below_drew1) | exact HB.out)) hb); clear HO_7; clear HB; have HO_7 := n0_; have HB := n1_; clear n0_ n1_; (try clear hb); (try clear hb2); (try clear hk); (try clear hi)))
                              go_ret
                              exact ⟨by first | rfl | (rw [HRA_.out]) | (simp only [HRA_.out]; done) | (simp only [← HRA_.out]; done) | (have HR_ := HRA_.out; simp_all) | (simp [errW_none, errW_some] <;> rfl) | (simp [*, errW_none, errW_some] <;> rfl), by repeat (first | (with_reducible first | exact HB.out | apply below_alloc | apply pw_below_drewN | apply below_drew1) | exact HB.out)⟩
                        · replace c37 := Bool.eq_false_iff.mpr c37
                          subst c37
                          have H1 : (some false) = some true := by rw [if_neg (show ¬ (false = true) by decide)] at H; exact H
                          clear H
                          have H := H1
                          clear H1
                          exact absurd H (by simp)
                      · replace c35 := Bool.eq_false_iff.mpr c35
                        subst c35
                        have H1 : (some false) = some true := by rw [if_neg (show ¬ (false = true) by decide)] at H; exact H
                        clear H
                        have H := H1
                        clear H1
                        exact absurd H (by simp)
                    · replace c33 := Bool.eq_false_iff.mpr c33
                      subst c33
                      have H1 : (some false) = some true := by rw [if_neg (show ¬ (false = true) by decide)] at H; exact H
                      clear H
                      have H := H1
                      clear H1
                      exact absurd H (by simp)
            · replace c25 := Bool.eq_false_iff.mpr c25
              subst c25
              have H1 : (some false) = some true := by rw [if_neg (show ¬ (false = true) by decide)] at H; exact H
              clear H
              have H := H1
              clear H1
              exact absurd H (by simp)
    · rw [if_neg c10] at H
      have c10b0 : (t275 == 0) = false := beq_eq_false_iff_ne.mpr c10
      have c10b1 : (t275 != 0) = true := bne_iff_ne.mpr c10
      replace H := Option.bind_eq_some_iff.mp H
      obtain ⟨t282, A550, H⟩ := H
      replace H : (some t282) = some true := H
      have A55 := Aside0.mk A550
      clear A550
      obtain rfl : t282 = true := Option.some.inj H
      go_enter Try.func12, Try.ntmps12
      go_wp2_with (first | ((with_reducible refine gate_callee (f := 38) rfl ?_); refine goesL_ (some 32) rfl rfl Try.func38 (by kernel_rfl) rfl #[.int .i64 (wrap64 (8 * (wrap64 (1 + (wrap64 (Int.tmod (IntKind.u64.wrap (a0)) 20))))))] rfl (by (try simp only [List.map_toArray, List.map_cons, List.map_nil]); first | done | rfl | (simp only [List.length_drop, List.length_take]; rfl)) ?_; (with_reducible refine (chain_First.calls (wrap64 (8 * (wrap64 (1 + (wrap64 (Int.tmod (IntKind.u64.wrap (a0)) 20)))))) t262 _ A4.out).mono ?_); rintro e w56 ⟨v263, rfl, ho0, hb⟩; refine ⟨_, rfl, ?_⟩; have n0_ := Aside0.mk (Kd.R_lower ho0 (below_size (by repeat (first | (with_reducible first | exact HB.out | apply below_alloc | apply pw_below_drewN | apply below_drew1) | exact HB.out)))); have n1_ := Aside0.mk (below_step (by repeat (first | (with_reducible first | exact HB.out | apply below_alloc | apply pw_below_drewN | apply below_drew1) | exact HB.out)) hb); clear HB; have HO264 := n0_; have HB := n1_; clear n0_ n1_; (try clear hb); (try clear hb2); (try clear hk); (try clear hi); (try clear ho0); obtain ⟨Ao57, co57, eo57⟩ := Kd.R_slice HO264.out; subst eo57) | ((with_reducible refine gate_callee (f := 39) rfl ?_); refine goesL_ (some 36) rfl rfl Try.func39 (by kernel_rfl) rfl #[.slice Ao57 t262.length co57, .int .i64 (wrap64 (1 + (wrap64 (Int.tmod (IntKind.u64.wrap (a1)) 30)))), .slice none 0 0] rfl (by (try simp only [List.map_toArray, List.map_cons, List.map_nil]); first | done | rfl | (simp only [List.length_drop, List.length_take]; rfl)) ?_; (refine (image_Alloc.calls k _ _ t262 (wrap64 (1 + (wrap64 (Int.tmod (IntKind.u64.wrap (a1)) 30)))) _ _ ([] : List Int) t265 t266 t267 _ ?side1 ?side2 ?side3 ?side4 A5.out).mono ?_); (case side1 => repeat (first | exact (Kd.R_reads' HO264.out).2.2 | (with_reducible refine Kd.C_alloc ?_ _) | (with_reducible refine Kd.C_drewN ?_ _) | (with_reducible refine Kd.C_drew ?_))); (case side2 => exact (Kd.R_reads' HO264.out).2.1); (case side3 => exact Kd.C_nil _ _); (case side4 => exact Nat.le_refl _); rintro e w58 ⟨v268, rfl, ho0, hb⟩; refine ⟨_, rfl, ?_⟩; have n0_ := Aside0.mk (Kd.R_below (by (with_reducible repeat (first | apply Kd.R_alloc | apply Kd.R_drewN | apply Kd.R_drew)); exact HO264.out) hb); have n1_ := Aside0.mk (Kd.R_lower ho0 (below_size (by repeat (first | (with_reducible first | exact HB.out | apply below_alloc | apply pw_below_drewN | apply below_drew1) | exact HB.out)))); have n2_ := Aside0.mk (below_step (by repeat (first | (with_reducible first | exact HB.out | apply below_alloc | apply pw_below_drewN | apply below_drew1) | exact HB.out)) hb); clear HO264; clear HB; have HO264 := n0_; have HO269 := n1_; have HB := n2_; clear n0_ n1_ n2_; (try clear hb); (try clear hb2); (try clear hk); (try clear hi); (try clear ho0); obtain ⟨Ao59, co59, eo59⟩ := Kd.R_slice HO269.out; subst eo59) | ((with_reducible refine gate_callee (f := 34) rfl ?_); refine goesL_ (some 42) rfl rfl Try.func34 (by kernel_rfl) rfl #[.slice Ao57 t262.length co57, .slice Ao59 t265.length co59] rfl (by (try simp only [List.map_toArray, List.map_cons, List.map_nil]); first | done | rfl | (simp only [List.length_drop, List.length_take]; rfl)) ?_; (with_reducible refine (darningref4_Apply.calls k _ _ t262 _ _ t265 t270 _ ?side1 ?side2 ?side3 ?side4 A6.out).mono ?_); (case side1 => repeat (first | exact (Kd.R_reads' HO264.out).2.2 | (with_reducible refine Kd.C_alloc ?_ _) | (with_reducible refine Kd.C_drewN ?_ _) | (with_reducible refine Kd.C_drew ?_))); (case side2 => exact (Kd.R_reads' HO264.out).2.1); (case side3 => repeat (first | exact (Kd.R_reads' HO269.out).2.2 | (with_reducible refine Kd.C_alloc ?_ _) | (with_reducible refine Kd.C_drewN ?_ _) | (with_reducible refine Kd.C_drew ?_))); (case side4 => exact (Kd.R_reads' HO269.out).2.1); rintro e w60 ⟨v271, rfl, ho0, hb⟩; refine ⟨_, rfl, ?_⟩; have n0_ := Aside0.mk (Kd.R_elder' (by (with_reducible repeat (first | apply Kd.R_alloc | apply Kd.R_drewN | apply Kd.R_drew)); exact HO264.out) (Kd.R_base ho0) hb); have n1_ := Aside0.mk (Kd.R_below (by (with_reducible repeat (first | apply Kd.R_alloc | apply Kd.R_drewN | apply Kd.R_drew)); exact HO269.out) hb); have n2_ := Aside0.mk (Kd.R_lower (Kd.R_new' ho0 (Kd.R_lt (by (with_reducible repeat (first | apply Kd.R_alloc | apply Kd.R_drewN | apply Kd.R_drew)); exact HO264.out))) (below_size (by repeat (first | (with_reducible first | exact HB.out | apply below_alloc | apply pw_below_drewN | apply below_drew1) | exact HB.out)))); have n3_ := Aside0.mk (below_step (by repeat (first | (with_reducible first | exact HB.out | apply below_alloc | apply pw_below_drewN | apply below_drew1) | exact HB.out)) hb); clear HO264; clear HO269; clear HB; have HO264 := n0_; have HO269 := n1_; have HO272 := n2_; have HB := n3_; clear n0_ n1_ n2_ n3_; (try clear hb); (try clear hb2); (try clear hk); (try clear hi); (try clear ho0); obtain ⟨Ao61, co61, eo61⟩ := Kd.R_slice HO272.out; subst eo61) | ((with_reducible refine gate_callee (f := 39) rfl ?_); refine goesL_ (some 46) rfl rfl Try.func39 (by kernel_rfl) rfl #[.slice Ao61 t270.length co61, .int .i64 (wrap64 (1 + (wrap64 (Int.tmod (IntKind.u64.wrap (a2)) 30)))), .slice none 0 0] rfl (by (try simp only [List.map_toArray, List.map_cons, List.map_nil]); first | done | rfl | (simp only [List.length_drop, List.length_take]; rfl)) ?_; (refine (image_Alloc.calls k _ _ t270 (wrap64 (1 + (wrap64 (Int.tmod (IntKind.u64.wrap (a2)) 30)))) _ _ ([] : List Int) t273 t274 t275 _ ?side1 ?side2 ?side3 ?side4 A7.out).mono ?_); (case side1 => repeat (first | exact (Kd.R_reads' HO272.out).2.2 | (with_reducible refine Kd.C_alloc ?_ _) | (with_reducible refine Kd.C_drewN ?_ _) | (with_reducible refine Kd.C_drew ?_))); (case side2 => exact (Kd.R_reads' HO272.out).2.1); (case side3 => exact Kd.C_nil _ _); (case side4 => exact Nat.le_refl _); rintro e w62 ⟨v276, rfl, ho0, hb⟩; refine ⟨_, rfl, ?_⟩; have n0_ := Aside0.mk (Kd.R_below (by (with_reducible repeat (first | apply Kd.R_alloc | apply Kd.R_drewN | apply Kd.R_drew)); exact HO264.out) hb); have n1_ := Aside0.mk (Kd.R_elder' (by (with_reducible repeat (first | apply Kd.R_alloc | apply Kd.R_drewN | apply Kd.R_drew)); exact HO269.out) (Kd.R_base ho0) hb); have n2_ := Aside0.mk (Kd.R_below (by (with_reducible repeat (first | apply Kd.R_alloc | apply Kd.R_drewN | apply Kd.R_drew)); exact HO272.out) hb); have n3_ := Aside0.mk (Kd.R_lower (Kd.R_new' ho0 (Kd.R_lt (by (with_reducible repeat (first | apply Kd.R_alloc | apply Kd.R_drewN | apply Kd.R_drew)); exact HO269.out))) (below_size (by repeat (first | (with_reducible first | exact HB.out | apply below_alloc | apply pw_below_drewN | apply below_drew1) | exact HB.out)))); have n4_ := Aside0.mk (below_step (by repeat (first | (with_reducible first | exact HB.out | apply below_alloc | apply pw_below_drewN | apply below_drew1) | exact HB.out)) hb); clear HO264; clear HO269; clear HO272; clear HB; have HO264 := n0_; have HO269 := n1_; have HO272 := n2_; have HO277 := n3_; have HB := n4_; clear n0_ n1_ n2_ n3_ n4_; (try clear hb); (try clear hb2); (try clear hk); (try clear hi); (try clear ho0); obtain ⟨Ao63, co63, eo63⟩ := Kd.R_slice HO277.out; subst eo63) | ((with_reducible refine gate_callee (f := 34) rfl ?_); refine goesL_ (some 52) rfl rfl Try.func34 (by kernel_rfl) rfl #[.slice Ao61 t270.length co61, .slice Ao63 t273.length co63] rfl (by (try simp only [List.map_toArray, List.map_cons, List.map_nil]); first | done | rfl | (simp only [List.length_drop, List.length_take]; rfl)) ?_; (with_reducible refine (darningref4_Apply.calls k _ _ t270 _ _ t273 t278 _ ?side1 ?side2 ?side3 ?side4 A8.out).mono ?_); (case side1 => repeat (first | exact (Kd.R_reads' HO272.out).2.2 | (with_reducible refine Kd.C_alloc ?_ _) | (with_reducible refine Kd.C_drewN ?_ _) | (with_reducible refine Kd.C_drew ?_))); (case side2 => exact (Kd.R_reads' HO272.out).2.1); (case side3 => repeat (first | exact (Kd.R_reads' HO277.out).2.2 | (with_reducible refine Kd.C_alloc ?_ _) | (with_reducible refine Kd.C_drewN ?_ _) | (with_reducible refine Kd.C_drew ?_))); (case side4 => exact (Kd.R_reads' HO277.out).2.1); rintro e w64 ⟨v279, rfl, ho0, hb⟩; refine ⟨_, rfl, ?_⟩; have n0_ := Aside0.mk (Kd.R_elder' (by (with_reducible repeat (first | apply Kd.R_alloc | apply Kd.R_drewN | apply Kd.R_drew)); exact HO264.out) (Kd.R_base ho0) hb); have n1_ := Aside0.mk (Kd.R_below (by (with_reducible repeat (first | apply Kd.R_alloc | apply Kd.R_drewN | apply Kd.R_drew)); exact HO269.out) hb); have n2_ := Aside0.mk (Kd.R_elder' (by (with_reducible repeat (first | apply Kd.R_alloc | apply Kd.R_drewN | apply Kd.R_drew)); exact HO272.out) (Kd.R_base ho0) hb); have n3_ := Aside0.mk (Kd.R_below (by (with_reducible repeat (first | apply Kd.R_alloc | apply Kd.R_drewN | apply Kd.R_drew)); exact HO277.out) hb); have n4_ := Aside0.mk (Kd.R_lower (Kd.R_new' (Kd.R_new' ho0 (Kd.R_lt (by (with_reducible repeat (first | apply Kd.R_alloc | apply Kd.R_drewN | apply Kd.R_drew)); exact HO264.out))) (Kd.R_lt (by (with_reducible repeat (first | apply Kd.R_alloc | apply Kd.R_drewN | apply Kd.R_drew)); exact HO272.out))) (below_size (by repeat (first | (with_reducible first | exact HB.out | apply below_alloc | apply pw_below_drewN | apply below_drew1) | exact HB.out)))); have n5_ := Aside0.mk (below_step (by repeat (first | (with_reducible first | exact HB.out | apply below_alloc | apply pw_below_drewN | apply below_drew1) | exact HB.out)) hb); clear HO264; clear HO269; clear HO272; clear HO277; clear HB; have HO264 := n0_; have HO269 := n1_; have HO272 := n2_; have HO277 := n3_; have HO280 := n4_; have HB := n5_; clear n0_ n1_ n2_ n3_ n4_ n5_; (try clear hb); (try clear hb2); (try clear hk); (try clear hi); (try clear ho0)) | ((with_reducible refine gate_callee (f := 40) rfl ?_); refine goesL_ (some 62) rfl rfl Try.func40 (by kernel_rfl) rfl #[] rfl (by (try simp only [List.map_toArray, List.map_cons, List.map_nil]); first | done | rfl | (simp only [List.length_drop, List.length_take]; rfl)) ?_; (with_reducible refine (darninglaw19_awake.calls k   _ A55.out).mono ?_); rintro e w65 ⟨rfl, hb⟩; refine ⟨_, rfl, ?_⟩; have n0_ := Aside0.mk (Kd.R_below (by (with_reducible repeat (first | apply Kd.R_alloc | apply Kd.R_drewN | apply Kd.R_drew)); exact HO264.out) hb); have n1_ := Aside0.mk (Kd.R_below (by (with_reducible repeat (first | apply Kd.R_alloc | apply Kd.R_drewN | apply Kd.R_drew)); exact HO269.out) hb); have n2_ := Aside0.mk (Kd.R_below (by (with_reducible repeat (first | apply Kd.R_alloc | apply Kd.R_drewN | apply Kd.R_drew)); exact HO272.out) hb); have n3_ := Aside0.mk (Kd.R_below (by (with_reducible repeat (first | apply Kd.R_alloc | apply Kd.R_drewN | apply Kd.R_drew)); exact HO277.out) hb); have n4_ := Aside0.mk (Kd.R_below (by (with_reducible repeat (first | apply Kd.R_alloc | apply Kd.R_drewN | apply Kd.R_drew)); exact HO280.out) hb); have n5_ := Aside0.mk (below_step (by repeat (first | (with_reducible first | exact HB.out | apply below_alloc | apply pw_below_drewN | apply below_drew1) | exact HB.out)) hb); clear HO264; clear HO269; clear HO272; clear HO277; clear HO280; clear HB; have HO264 := n0_; have HO269 := n1_; have HO272 := n2_; have HO277 := n3_; have HO280 := n4_; have HB := n5_; clear n0_ n1_ n2_ n3_ n4_ n5_; (try clear hb); (try clear hb2); (try clear hk); (try clear hi)))
      go_ret
      exact ⟨by first | rfl | (rw [HRA_.out]) | (simp only [HRA_.out]; done) | (simp only [← HRA_.out]; done) | (have HR_ := HRA_.out; simp_all) | (simp [errW_none, errW_some] <;> rfl) | (simp [*, errW_none, errW_some] <;> rfl), by repeat (first | (with_reducible first | exact HB.out | apply below_alloc | apply pw_below_drewN | apply below_drew1) | exact HB.out)⟩
  · rw [if_neg c9] at H
    have c9b0 : (t267 == 0) = false := beq_eq_false_iff_ne.mpr c9
    have c9b1 : (t267 != 0) = true := bne_iff_ne.mpr c9
    by_cases c66 : (wrap64 (1 + (wrap64 (Int.tmod (IntKind.u64.wrap (a0)) 20)))) < 2
    · rw [if_pos c66] at H
      have c66b0 : decide ((wrap64 (1 + (wrap64 (Int.tmod (IntKind.u64.wrap (a0)) 20)))) < 2) = true := decide_eq_true c66
      clear c66
      replace H := Option.bind_eq_some_iff.mp H
      obtain ⟨t281, A670, H⟩ := H
      replace H : (some t281) = some true := H
      have A67 := Aside0.mk A670
      clear A670
      obtain rfl : t281 = true := Option.some.inj H
      go_enter Try.func12, Try.ntmps12
      go_wp2_with (first | ((with_reducible refine gate_callee (f := 38) rfl ?_); refine goesL_ (some 32) rfl rfl Try.func38 (by kernel_rfl) rfl #[.int .i64 (wrap64 (8 * (wrap64 (1 + (wrap64 (Int.tmod (IntKind.u64.wrap (a0)) 20))))))] rfl (by (try simp only [List.map_toArray, List.map_cons, List.map_nil]); first | done | rfl | (simp only [List.length_drop, List.length_take]; rfl)) ?_; (with_reducible refine (chain_First.calls (wrap64 (8 * (wrap64 (1 + (wrap64 (Int.tmod (IntKind.u64.wrap (a0)) 20)))))) t262 _ A4.out).mono ?_); rintro e w68 ⟨v263, rfl, ho0, hb⟩; refine ⟨_, rfl, ?_⟩; have n0_ := Aside0.mk (Kd.R_lower ho0 (below_size (by repeat (first | (with_reducible first | exact HB.out | apply below_alloc | apply pw_below_drewN | apply below_drew1) | exact HB.out)))); have n1_ := Aside0.mk (below_step (by repeat (first | (with_reducible first | exact HB.out | apply below_alloc | apply pw_below_drewN | apply below_drew1) | exact HB.out)) hb); clear HB; have HO264 := n0_; have HB := n1_; clear n0_ n1_; (try clear hb); (try clear hb2); (try clear hk); (try clear hi); (try clear ho0); obtain ⟨Ao69, co69, eo69⟩ := Kd.R_slice HO264.out; subst eo69) | ((with_reducible refine gate_callee (f := 39) rfl ?_); refine goesL_ (some 36) rfl rfl Try.func39 (by kernel_rfl) rfl #[.slice Ao69 t262.length co69, .int .i64 (wrap64 (1 + (wrap64 (Int.tmod (IntKind.u64.wrap (a1)) 30)))), .slice none 0 0] rfl (by (try simp only [List.map_toArray, List.map_cons, List.map_nil]); first | done | rfl | (simp only [List.length_drop, List.length_take]; rfl)) ?_; (refine (image_Alloc.calls k _ _ t262 (wrap64 (1 + (wrap64 (Int.tmod (IntKind.u64.wrap (a1)) 30)))) _ _ ([] : List Int) t265 t266 t267 _ ?side1 ?side2 ?side3 ?side4 A5.out).mono ?_); (case side1 => repeat (first | exact (Kd.R_reads' HO264.out).2.2 | (with_reducible refine Kd.C_alloc ?_ _) | (with_reducible refine Kd.C_drewN ?_ _) | (with_reducible refine Kd.C_drew ?_))); (case side2 => exact (Kd.R_reads' HO264.out).2.1); (case side3 => exact Kd.C_nil _ _); (case side4 => exact Nat.le_refl _); rintro e w70 ⟨v268, rfl, ho0, hb⟩; refine ⟨_, rfl, ?_⟩; have n0_ := Aside0.mk (Kd.R_below (by (with_reducible repeat (first | apply Kd.R_alloc | apply Kd.R_drewN | apply Kd.R_drew)); exact HO264.out) hb); have n1_ := Aside0.mk (Kd.R_lower ho0 (below_size (by repeat (first | (with_reducible first | exact HB.out | apply below_alloc | apply pw_below_drewN | apply below_drew1) | exact HB.out)))); have n2_ := Aside0.mk (below_step (by repeat (first | (with_reducible first | exact HB.out | apply below_alloc | apply pw_below_drewN | apply below_drew1) | exact HB.out)) hb); clear HO264; clear HB; have HO264 := n0_; have HO269 := n1_; have HB := n2_; clear n0_ n1_ n2_; (try clear hb); (try clear hb2); (try clear hk); (try clear hi); (try clear ho0); obtain ⟨Ao71, co71, eo71⟩ := Kd.R_slice HO269.out; subst eo71) | ((with_reducible refine gate_callee (f := 34) rfl ?_); refine goesL_ (some 42) rfl rfl Try.func34 (by kernel_rfl) rfl #[.slice Ao69 t262.length co69, .slice Ao71 t265.length co71] rfl (by (try simp only [List.map_toArray, List.map_cons, List.map_nil]); first | done | rfl | (simp only [List.length_drop, List.length_take]; rfl)) ?_; (with_reducible refine (darningref4_Apply.calls k _ _ t262 _ _ t265 t270 _ ?side1 ?side2 ?side3 ?side4 A6.out).mono ?_); (case side1 => repeat (first | exact (Kd.R_reads' HO264.out).2.2 | (with_reducible refine Kd.C_alloc ?_ _) | (with_reducible refine Kd.C_drewN ?_ _) | (with_reducible refine Kd.C_drew ?_))); (case side2 => exact (Kd.R_reads' HO264.out).2.1); (case side3 => repeat (first | exact (Kd.R_reads' HO269.out).2.2 | (with_reducible refine Kd.C_alloc ?_ _) | (with_reducible refine Kd.C_drewN ?_ _) | (with_reducible refine Kd.C_drew ?_))); (case side4 => exact (Kd.R_reads' HO269.out).2.1); rintro e w72 ⟨v271, rfl, ho0, hb⟩; refine ⟨_, rfl, ?_⟩; have n0_ := Aside0.mk (Kd.R_elder' (by (with_reducible repeat (first | apply Kd.R_alloc | apply Kd.R_drewN | apply Kd.R_drew)); exact HO264.out) (Kd.R_base ho0) hb); have n1_ := Aside0.mk (Kd.R_below (by (with_reducible repeat (first | apply Kd.R_alloc | apply Kd.R_drewN | apply Kd.R_drew)); exact HO269.out) hb); have n2_ := Aside0.mk (Kd.R_lower (Kd.R_new' ho0 (Kd.R_lt (by (with_reducible repeat (first | apply Kd.R_alloc | apply Kd.R_drewN | apply Kd.R_drew)); exact HO264.out))) (below_size (by repeat (first | (with_reducible first | exact HB.out | apply below_alloc | apply pw_below_drewN | apply below_drew1) | exact HB.out)))); have n3_ := Aside0.mk (below_step (by repeat (first | (with_reducible first | exact HB.out | apply below_alloc | apply pw_below_drewN | apply below_drew1) | exact HB.out)) hb); clear HO264; clear HO269; clear HB; have HO264 := n0_; have HO269 := n1_; have HO272 := n2_; have HB := n3_; clear n0_ n1_ n2_ n3_; (try clear hb); (try clear hb2); (try clear hk); (try clear hi); (try clear ho0); obtain ⟨Ao73, co73, eo73⟩ := Kd.R_slice HO272.out; subst eo73) | ((with_reducible refine gate_callee (f := 39) rfl ?_); refine goesL_ (some 46) rfl rfl Try.func39 (by kernel_rfl) rfl #[.slice Ao73 t270.length co73, .int .i64 (wrap64 (1 + (wrap64 (Int.tmod (IntKind.u64.wrap (a2)) 30)))), .slice none 0 0] rfl (by (try simp only [List.map_toArray, List.map_cons, List.map_nil]); first | done | rfl | (simp only [List.length_drop, List.length_take]; rfl)) ?_; (refine (image_Alloc.calls k _ _ t270 (wrap64 (1 + (wrap64 (Int.tmod (IntKind.u64.wrap (a2)) 30)))) _ _ ([] : List Int) t273 t274 t275 _ ?side1 ?side2 ?side3 ?side4 A7.out).mono ?_); (case side1 => repeat (first | exact (Kd.R_reads' HO272.out).2.2 | (with_reducible refine Kd.C_alloc ?_ _) | (with_reducible refine Kd.C_drewN ?_ _) | (with_reducible refine Kd.C_drew ?_))); (case side2 => exact (Kd.R_reads' HO272.out).2.1); (case side3 => exact Kd.C_nil _ _); (case side4 => exact Nat.le_refl _); rintro e w74 ⟨v276, rfl, ho0, hb⟩; refine ⟨_, rfl, ?_⟩; have n0_ := Aside0.mk (Kd.R_below (by (with_reducible repeat (first | apply Kd.R_alloc | apply Kd.R_drewN | apply Kd.R_drew)); exact HO264.out) hb); have n1_ := Aside0.mk (Kd.R_elder' (by (with_reducible repeat (first | apply Kd.R_alloc | apply Kd.R_drewN | apply Kd.R_drew)); exact HO269.out) (Kd.R_base ho0) hb); have n2_ := Aside0.mk (Kd.R_below (by (with_reducible repeat (first | apply Kd.R_alloc | apply Kd.R_drewN | apply Kd.R_drew)); exact HO272.out) hb); have n3_ := Aside0.mk (Kd.R_lower (Kd.R_new' ho0 (Kd.R_lt (by (with_reducible repeat (first | apply Kd.R_alloc | apply Kd.R_drewN | apply Kd.R_drew)); exact HO269.out))) (below_size (by repeat (first | (with_reducible first | exact HB.out | apply below_alloc | apply pw_below_drewN | apply below_drew1) | exact HB.out)))); have n4_ := Aside0.mk (below_step (by repeat (first | (with_reducible first | exact HB.out | apply below_alloc | apply pw_below_drewN | apply below_drew1) | exact HB.out)) hb); clear HO264; clear HO269; clear HO272; clear HB; have HO264 := n0_; have HO269 := n1_; have HO272 := n2_; have HO277 := n3_; have HB := n4_; clear n0_ n1_ n2_ n3_ n4_; (try clear hb); (try clear hb2); (try clear hk); (try clear hi); (try clear ho0); obtain ⟨Ao75, co75, eo75⟩ := Kd.R_slice HO277.out; subst eo75) | ((with_reducible refine gate_callee (f := 34) rfl ?_); refine goesL_ (some 52) rfl rfl Try.func34 (by kernel_rfl) rfl #[.slice Ao73 t270.length co73, .slice Ao75 t273.length co75] rfl (by (try simp only [List.map_toArray, List.map_cons, List.map_nil]); first | done | rfl | (simp only [List.length_drop, List.length_take]; rfl)) ?_; (with_reducible refine (darningref4_Apply.calls k _ _ t270 _ _ t273 t278 _ ?side1 ?side2 ?side3 ?side4 A8.out).mono ?_); (case side1 => repeat (first | exact (Kd.R_reads' HO272.out).2.2 | (with_reducible refine Kd.C_alloc ?_ _) | (with_reducible refine Kd.C_drewN ?_ _) | (with_reducible refine Kd.C_drew ?_))); (case side2 => exact (Kd.R_reads' HO272.out).2.1); (case side3 => repeat (first | exact (Kd.R_reads' HO277.out).2.2 | (with_reducible refine Kd.C_alloc ?_ _) | (with_reducible refine Kd.C_drewN ?_ _) | (with_reducible refine Kd.C_drew ?_))); (case side4 => exact (Kd.R_reads' HO277.out).2.1); rintro e w76 ⟨v279, rfl, ho0, hb⟩; refine ⟨_, rfl, ?_⟩; have n0_ := Aside0.mk (Kd.R_elder' (by (with_reducible repeat (first | apply Kd.R_alloc | apply Kd.R_drewN | apply Kd.R_drew)); exact HO264.out) (Kd.R_base ho0) hb); have n1_ := Aside0.mk (Kd.R_below (by (with_reducible repeat (first | apply Kd.R_alloc | apply Kd.R_drewN | apply Kd.R_drew)); exact HO269.out) hb); have n2_ := Aside0.mk (Kd.R_elder' (by (with_reducible repeat (first | apply Kd.R_alloc | apply Kd.R_drewN | apply Kd.R_drew)); exact HO272.out) (Kd.R_base ho0) hb); have n3_ := Aside0.mk (Kd.R_below (by (with_reducible repeat (first | apply Kd.R_alloc | apply Kd.R_drewN | apply Kd.R_drew)); exact HO277.out) hb); have n4_ := Aside0.mk (Kd.R_lower (Kd.R_new' (Kd.R_new' ho0 (Kd.R_lt (by (with_reducible repeat (first | apply Kd.R_alloc | apply Kd.R_drewN | apply Kd.R_drew)); exact HO264.out))) (Kd.R_lt (by (with_reducible repeat (first | apply Kd.R_alloc | apply Kd.R_drewN | apply Kd.R_drew)); exact HO272.out))) (below_size (by repeat (first | (with_reducible first | exact HB.out | apply below_alloc | apply pw_below_drewN | apply below_drew1) | exact HB.out)))); have n5_ := Aside0.mk (below_step (by repeat (first | (with_reducible first | exact HB.out | apply below_alloc | apply pw_below_drewN | apply below_drew1) | exact HB.out)) hb); clear HO264; clear HO269; clear HO272; clear HO277; clear HB; have HO264 := n0_; have HO269 := n1_; have HO272 := n2_; have HO277 := n3_; have HO280 := n4_; have HB := n5_; clear n0_ n1_ n2_ n3_ n4_ n5_; (try clear hb); (try clear hb2); (try clear hk); (try clear hi); (try clear ho0)) | (go_at_call 40; (with_reducible refine (darninglaw19_awake.calls k   _ A67.out).mono ?_); rintro e w77 ⟨rfl, hb⟩; have n0_ := Aside0.mk (Kd.R_below (by (with_reducible repeat (first | apply Kd.R_alloc | apply Kd.R_drewN | apply Kd.R_drew)); exact HO264.out) hb); have n1_ := Aside0.mk (Kd.R_below (by (with_reducible repeat (first | apply Kd.R_alloc | apply Kd.R_drewN | apply Kd.R_drew)); exact HO269.out) hb); have n2_ := Aside0.mk (Kd.R_below (by (with_reducible repeat (first | apply Kd.R_alloc | apply Kd.R_drewN | apply Kd.R_drew)); exact HO272.out) hb); have n3_ := Aside0.mk (Kd.R_below (by (with_reducible repeat (first | apply Kd.R_alloc | apply Kd.R_drewN | apply Kd.R_drew)); exact HO277.out) hb); have n4_ := Aside0.mk (Kd.R_below (by (with_reducible repeat (first | apply Kd.R_alloc | apply Kd.R_drewN | apply Kd.R_drew)); exact HO280.out) hb); have n5_ := Aside0.mk (below_step (by repeat (first | (with_reducible first | exact HB.out | apply below_alloc | apply pw_below_drewN | apply below_drew1) | exact HB.out)) hb); clear HO264; clear HO269; clear HO272; clear HO277; clear HO280; clear HB; have HO264 := n0_; have HO269 := n1_; have HO272 := n2_; have HO277 := n3_; have HO280 := n4_; have HB := n5_; clear n0_ n1_ n2_ n3_ n4_ n5_; (try clear hb); (try clear hb2); (try clear hk); (try clear hi)))
      go_ret
      exact ⟨by first | rfl | (rw [HRA_.out]) | (simp only [HRA_.out]; done) | (simp only [← HRA_.out]; done) | (have HR_ := HRA_.out; simp_all) | (simp [errW_none, errW_some] <;> rfl) | (simp [*, errW_none, errW_some] <;> rfl), by repeat (first | (with_reducible first | exact HB.out | apply below_alloc | apply pw_below_drewN | apply below_drew1) | exact HB.out)⟩
    · rw [if_neg c66] at H
      have c66b0 : decide ((wrap64 (1 + (wrap64 (Int.tmod (IntKind.u64.wrap (a0)) 20)))) < 2) = false := decide_eq_false c66
      clear c66
      exact absurd H (by simp)

/-- THE ONE PURE STATEMENT of darninglaw19_ImageBounds: yours. -/
def darninglaw19_ImageBounds.Pure : Prop := ∀ (a0 : Int) (a1 : Int) (a2 : Int), (Lit.int .i64 a0).wf = true → (Lit.int .i64 a1).wf = true → (Lit.int .i64 a2).wf = true → ∃ k, darninglaw19_ImageBounds.f k a0 a1 a2 = some true
theorem darninglaw19_ImageBounds.walk (P : darninglaw19_ImageBounds.Pure) (a0 : Int) (a1 : Int) (a2 : Int) (w : World) (w0 : (Lit.int .i64 a0).wf = true) (w1 : (Lit.int .i64 a1).wf = true) (w2 : (Lit.int .i64 a2).wf = true) :
    Calls Try.prog 12 #[.int .i64 a0, .int .i64 a1, .int .i64 a2] w fun e w' => e = .returned (.bool true) ∧ Below w.heap.size w w' := by
  obtain ⟨k, h⟩ := P a0 a1 a2 w0 w1 w2
  refine (darninglaw19_ImageBounds.calls k a0 a1 a2 w h).mono ?_
  rintro e w' ⟨rfl, hd⟩
  exact ⟨rfl, hd⟩

end Go.Proofs.Ytglekonhdjploaa.XImageBounds
