-- printed by wip/xprint.py
import Derived.Test.YtglekonhdjploaaXImageFormsx0
import Derived.Test.YtglekonhdjploaaXImageFormsx9
namespace Go.Proofs.Ytglekonhdjploaa.XImageForms
open Go.RowKit Go.Proofs.YtglekonhdjploaaW.PrintWords Go.Proofs.YtglekonhdjploaaW.PrintLast Go.Proofs.YtglekonhdjploaaW.PrintMore
attribute [local go_sem] max2_int min2_int max_two min_two max_three min_three max_four min_four
set_option linter.unusedVariables false
set_option linter.unusedSimpArgs false

/-! ### image_Read: function 48 -/
def image_Read.f (k : Nat) (l0 : List Int) (a1 : Int) (a2 : Int) : Option (List Int × Int) := (image_holds.f k l0 a1 a2).bind fun t203 => (if t203 = 0 then ((span_Read.f k l0 a1 a2).bind fun bt204 => (some (bt204.1, 0))) else (some (([] : List Int), t203)))
theorem image_Read.mono : ∀ a0 a1 a2 k, LeO (image_Read.f k a0 a1 a2) (image_Read.f (k + 1) a0 a1 a2) := by
 intro a0 a1 a2 k
 unfold image_Read.f
 repeat' first
   | (with_reducible exact image_holds.mono _ _ _ _)
   | (with_reducible exact span_Read.mono _ _ _ _)
   | (with_reducible exact LeO.refl _)
   | (with_reducible exact LeO.none _)
   | (with_reducible refine LeO.ite ?_ ?_)
   | (with_reducible refine LeO.bind ?_ (fun _ => ?_))
   | exact image_holds.mono _ _ _ _
   | exact span_Read.mono _ _ _ _
   | exact LeO.none _
   | refine LeO.ite ?_ ?_
   | refine LeO.bind ?_ (fun _ => ?_)
set_option maxHeartbeats 8000000 in
set_option maxRecDepth 100000 in
theorem image_Read.calls (k : Nat) (A0 : Option Addr) (c0 : Nat) (l0 : List Int) (a1 : Int) (a2 : Int) (r1 : List Int) (r2 : Int) (w : World) (hr0 : Kd.C (Kd.int .u64) w A0 l0.length l0) (hc0 : l0.length ≤ c0) (h : image_Read.f k l0 a1 a2 = some (r1, r2)) :
  Calls Try.prog 48 #[.slice A0 l0.length c0, .int .i64 a1, .int .i64 a2] w fun e w' => ∃ v0_ : Value, e = .returned (.tuple #[v0_, .int .i64 r2]) ∧ Kd.R (Kd.int .u8) 5 w' w.heap.size (fun _ => True) v0_ r1 ∧ Below w.heap.size w w' := by
 have HR0 := Aside0.mk hr0
 have HC0 := Aside0.mk hc0
 clear hr0 hc0
 have HB := Aside0.mk (Below.refl w.heap.size w)
 have H : ((image_holds.f k l0 a1 a2).bind fun t203 => (if t203 = 0 then ((span_Read.f k l0 a1 a2).bind fun bt204 => (some (bt204.1, 0))) else (some (([] : List Int), t203)))) = some (r1, r2) := h
 clear h
 replace H := Option.bind_eq_some_iff.mp H
 obtain ⟨t203, A40, H⟩ := H
 replace H : (if t203 = 0 then ((span_Read.f k l0 a1 a2).bind fun bt204 => (some (bt204.1, 0))) else (some (([] : List Int), t203))) = some (r1, r2) := H
 have A4 := Aside0.mk A40
 clear A40
 by_cases c5 : t203 = 0
 rotate_left
 ·
  rw [if_neg c5] at H
  have c5b0 : (t203 == 0) = false := beq_eq_false_iff_ne.mpr c5
  have c5b1 : (t203 != 0) = true := bne_iff_ne.mpr c5
  simp only [Option.some.injEq, Prod.mk.injEq] at H
  obtain ⟨rfl, rfl⟩ := H
  go_enter Try.func48, Try.ntmps48
  go_wp2_with (first | ((with_reducible refine gate_callee (f := 75) rfl ?_); refine goesL_ (some 14) rfl rfl Try.func75 (by kernel_rfl) rfl #[.slice A0 l0.length c0, .int .i64 a1, .int .i64 a2] rfl (by (try simp only [qj, qk, ql]); first | done | rfl | (simp only [qm, qn]; rfl)) ?_; (with_reducible refine (image_holds.calls k _ _ l0 a1 a2 t203 _ ?side1 ?side2 A4.out).mono ?_); (case side1 => exact zc HR0.out); (case side2 => exact HC0.out); rintro e w9 ⟨rfl, hb⟩; refine ⟨_, rfl, ?_⟩; have n0_ := zb HB hb; replace HB := n0_; clear n0_; (try clear hb)))
  go_ret2
  exact ⟨_, by first | rfl | (simp [errW_none, errW_some] <;> rfl) | (simp [*, errW_none, errW_some] <;> rfl), by first | exact Kd.R_nil _ _ _ _ _ | exact Kd.N_nil _ _ _ _ _ | exact Kd.V_nil _ _ _ _ _ | exact Kd.Q_nil _ _ _ _ _ | exact Kd.S_nil _ _ _ _ _, zB HB⟩
 rw [if_pos c5] at H
 have c5b0 : (t203 == 0) = true := beq_iff_eq.mpr c5
 have c5b1 : (t203 != 0) = false := bne_eq_false_iff_eq.mpr c5
 clear c5
 replace H := Option.bind_eq_some_iff.mp H
 obtain ⟨⟨t204, t205⟩, A60, H⟩ := H
 replace H : (some (t204, 0)) = some (r1, r2) := H
 have A6 := Aside0.mk A60
 clear A60
 simp only [Option.some.injEq, Prod.mk.injEq] at H
 obtain ⟨rfl, rfl⟩ := H
 go_enter Try.func48, Try.ntmps48
 go_wp2_with (first | ((with_reducible refine gate_callee (f := 75) rfl ?_); refine goesL_ (some 14) rfl rfl Try.func75 (by kernel_rfl) rfl #[.slice A0 l0.length c0, .int .i64 a1, .int .i64 a2] rfl (by (try simp only [qj, qk, ql]); first | done | rfl | (simp only [qm, qn]; rfl)) ?_; (with_reducible refine (image_holds.calls k _ _ l0 a1 a2 t203 _ ?side1 ?side2 A4.out).mono ?_); (case side1 => exact zc HR0.out); (case side2 => exact HC0.out); rintro e w7 ⟨rfl, hb⟩; refine ⟨_, rfl, ?_⟩; have n0_ := zb HB hb; replace HB := n0_; clear n0_; (try clear hb)) | ((with_reducible refine gate_callee (f := 76) rfl ?_); refine goesL_ (some 22) rfl rfl Try.func76 (by kernel_rfl) rfl #[.slice A0 l0.length c0, .int .i64 a1, .int .i64 a2] rfl (by (try simp only [qj, qk, ql]); first | done | rfl | (simp only [qm, qn]; rfl)) ?_; (with_reducible refine (span_Read.calls k _ _ l0 a1 a2 t204 t205 _ ?side1 ?side2 A6.out).mono ?_); (case side1 => exact zc (Kd.C_below HR0.out HB.out)); (case side2 => exact HC0.out); rintro e w8 ⟨v206, rfl, ho0, hb⟩; refine ⟨_, rfl, ?_⟩; have n0_ := Aside0.mk (Kd.R_lower ho0 (below_size (zB HB))); have n1_ := zb HB hb; clear HB; have HO207 := n0_; have HB := n1_; clear n0_ n1_; (try clear hb); (try clear ho0)))
 go_ret2
 exact ⟨_, by first | rfl | (simp [errW_none, errW_some] <;> rfl) | (simp [*, errW_none, errW_some] <;> rfl), by (with_reducible repeat (first | apply qa | apply qb | apply qc)); exact HO207.out, zB HB⟩

end Go.Proofs.Ytglekonhdjploaa.XImageForms
