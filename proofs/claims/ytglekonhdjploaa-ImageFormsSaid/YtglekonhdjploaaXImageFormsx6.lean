-- printed by wip/xprint.py
import Derived.Test.YtglekonhdjploaaXImageFormsx0
namespace Go.Proofs.Ytglekonhdjploaa.XImageForms
open Go.RowKit Go.Proofs.YtglekonhdjploaaW.PrintWords Go.Proofs.YtglekonhdjploaaW.PrintLast Go.Proofs.YtglekonhdjploaaW.PrintMore
attribute [local go_sem] max2_int min2_int max_two min_two max_three min_three max_four min_four
set_option linter.unusedVariables false
set_option linter.unusedSimpArgs false

/-! ### fit_count: function 85 -/
def fit_count.f (a0_0 : Int) (a0_1 : Int) (a0_2 : Bool) (l1 : List Int) : Option (Int) := if a0_0 < 0 then (some 0) else (if (wrap64 (Int.tdiv a0_0 32)) ≥ (l1.length : Int) then (some 0) else (if 0 ≤ (wrap64 (Int.tdiv a0_0 32)) then (if (wrap64 (Int.tdiv a0_0 32)) < (l1.length : Int) then (some (rd l1 (wrap64 (Int.tdiv a0_0 32)))) else (none)) else (none)))
set_option maxHeartbeats 8000000 in
set_option maxRecDepth 100000 in
theorem fit_count.calls (a0_0 : Int) (a0_1 : Int) (a0_2 : Bool) (A1 : Option Addr) (c1 : Nat) (l1 : List Int) (r : Int) (w : World) (hr1 : Kd.C (Kd.int .i64) w A1 l1.length l1) (hc1 : l1.length ≤ c1) (h : fit_count.f a0_0 a0_1 a0_2 l1 = some r) :
  Calls Try.prog 85 #[.agg #[.int .i64 a0_0, .int .i64 a0_1, .bool a0_2], .slice A1 l1.length c1] w fun e w' => e = .returned (.int .i64 r) ∧ Below w.heap.size w w' := by
 have hu35 := Try.underlying35
 have HR1 := Aside0.mk hr1
 have HC1 := Aside0.mk hc1
 clear hr1 hc1
 have HB := Aside0.mk (Below.refl w.heap.size w)
 have H : (if a0_0 < 0 then (some 0) else (if (wrap64 (Int.tdiv a0_0 32)) ≥ (l1.length : Int) then (some 0) else (if 0 ≤ (wrap64 (Int.tdiv a0_0 32)) then (if (wrap64 (Int.tdiv a0_0 32)) < (l1.length : Int) then (some (rd l1 (wrap64 (Int.tdiv a0_0 32)))) else (none)) else (none)))) = some r := h
 clear h
 by_cases c3 : a0_0 < 0
 ·
  rw [if_pos c3] at H
  have c3b0 : decide (a0_0 < 0) = true := decide_eq_true c3
  clear c3
  obtain rfl := Option.some.inj H
  go_enter Try.func85, Try.ntmps85
  go_wp2_with (first | ((with_reducible refine gate_dst (N := 2) rfl ?_); (try (refine gate_guard (by rfl) ?_; dsimp only)); refine box_event ?hg (N := 2) ?hd (cs := #[.int .i64 a0_0, .int .i64 a0_1, .bool a0_2]) (t := 35) ?hr ?_; (case hd => rfl); (case hg => rfl); (case hr => first | (go_simp; done) | (go_simp; rfl)); intro gb154 hg w4 hbox hb; have n0_ := zb HB hb; have n1_ := Aside0.mk (hbox); have n2_ := Aside0.mk ((by rw [hg]; exact (below_size (zB HB)) : w.heap.size ≤ gb154)); have n3_ := Aside0.mk ((by rw [hg]; exact (below_size (zB HB)) : w.heap.size ≤ gb154)); clear HB; have HB := n0_; have BK154 := n1_; have GW154 := n2_; have GE154 := n3_; clear n0_ n1_ n2_ n3_; clear hb hbox hg; have hcz5_0 : w4.cell? ⟨gb154, 0, none⟩ = some (.int .i64 a0_0) := (blk_cell BK154.out 0).trans rfl; have hcz5_1 : w4.cell? ⟨gb154, 1, none⟩ = some (.int .i64 a0_1) := (blk_cell BK154.out 1).trans rfl; have hcz5_2 : w4.cell? ⟨gb154, 2, none⟩ = some (.bool a0_2) := (blk_cell BK154.out 2).trans rfl; have hfz5_0 := blk_frozen BK154.out 0; have hfz5_1 := blk_frozen BK154.out 1; have hfz5_2 := blk_frozen BK154.out 2))
  go_ret
  exact ⟨by first | rfl | (simp [errW_none, errW_some] <;> rfl) | (simp [*, errW_none, errW_some] <;> rfl), by repeat (first | (with_reducible first | exact HB.out | apply qd | apply qe | apply qf | refine below_set ?_ GE154.out) | exact HB.out)⟩
 rw [if_neg c3] at H
 have c3b0 : decide (a0_0 < 0) = false := decide_eq_false c3
 clear c3
 by_cases c6 : (wrap64 (Int.tdiv a0_0 32)) ≥ (l1.length : Int)
 ·
  rw [if_pos c6] at H
  have c6b0 : decide ((l1.length : Int) ≤ (wrap64 (Int.tdiv a0_0 32))) = true := decide_eq_true c6
  clear c6
  obtain rfl := Option.some.inj H
  go_enter Try.func85, Try.ntmps85
  go_wp2_with (first | ((with_reducible refine gate_dst (N := 2) rfl ?_); (try (refine gate_guard (by rfl) ?_; dsimp only)); refine box_event ?hg (N := 2) ?hd (cs := #[.int .i64 a0_0, .int .i64 a0_1, .bool a0_2]) (t := 35) ?hr ?_; (case hd => rfl); (case hg => rfl); (case hr => first | (go_simp; done) | (go_simp; rfl)); intro gb154 hg w7 hbox hb; have n0_ := zb HB hb; have n1_ := Aside0.mk (hbox); have n2_ := Aside0.mk ((by rw [hg]; exact (below_size (zB HB)) : w.heap.size ≤ gb154)); have n3_ := Aside0.mk ((by rw [hg]; exact (below_size (zB HB)) : w.heap.size ≤ gb154)); clear HB; have HB := n0_; have BK154 := n1_; have GW154 := n2_; have GE154 := n3_; clear n0_ n1_ n2_ n3_; clear hb hbox hg; have hcz8_0 : w7.cell? ⟨gb154, 0, none⟩ = some (.int .i64 a0_0) := (blk_cell BK154.out 0).trans rfl; have hcz8_1 : w7.cell? ⟨gb154, 1, none⟩ = some (.int .i64 a0_1) := (blk_cell BK154.out 1).trans rfl; have hcz8_2 : w7.cell? ⟨gb154, 2, none⟩ = some (.bool a0_2) := (blk_cell BK154.out 2).trans rfl; have hfz8_0 := blk_frozen BK154.out 0; have hfz8_1 := blk_frozen BK154.out 1; have hfz8_2 := blk_frozen BK154.out 2))
  go_ret
  exact ⟨by first | rfl | (simp [errW_none, errW_some] <;> rfl) | (simp [*, errW_none, errW_some] <;> rfl), by repeat (first | (with_reducible first | exact HB.out | apply qd | apply qe | apply qf | refine below_set ?_ GE154.out) | exact HB.out)⟩
 rw [if_neg c6] at H
 have c6b0 : decide ((l1.length : Int) ≤ (wrap64 (Int.tdiv a0_0 32))) = false := decide_eq_false c6
 clear c6
 obtain ⟨ji9, hji9⟩ : ∃ j_ : Int, (wrap64 (Int.tdiv a0_0 32)) = j_ := ⟨_, rfl⟩
 replace H : (if 0 ≤ (ji9) then (if (ji9) < (l1.length : Int) then (some (rd l1 (ji9))) else (none)) else (none)) = some r := by first | (rw [hji9] at H; exact H) | (simp only [hji9] at H ⊢; exact H)
 (try rw [hji9] at c6b0)
 have hji9w : (IntKind.i64.wrap (Int.tdiv a0_0 32)) = ji9 := (i64_w _).trans hji9
 by_cases c10 : 0 ≤ (ji9)
 rotate_left
 ·
  rw [if_neg c10] at H
  exact absurd H (by simp)
 rw [if_pos c10] at H
 have c10b0 : decide (0 ≤ (ji9)) = true := decide_eq_true c10
 clear c10
 by_cases c11 : (ji9) < (l1.length : Int)
 rotate_left
 ·
  rw [if_neg c11] at H
  exact absurd H (by simp)
 rw [if_pos c11] at H
 have c11b0 : decide ((ji9) < (l1.length : Int)) = true := decide_eq_true c11
 clear c11
 obtain rfl := Option.some.inj H
 go_enter Try.func85, Try.ntmps85
 go_wp2_with (first | ((with_reducible refine gate_dst (N := 2) rfl ?_); (try (refine gate_guard (by rfl) ?_; dsimp only)); refine box_event ?hg (N := 2) ?hd (cs := #[.int .i64 a0_0, .int .i64 a0_1, .bool a0_2]) (t := 35) ?hr ?_; (case hd => rfl); (case hg => rfl); (case hr => first | (go_simp; done) | (go_simp; rfl)); intro gb154 hg w12 hbox hb; have n0_ := zb HB hb; have n1_ := Aside0.mk (hbox); have n2_ := Aside0.mk ((by rw [hg]; exact (below_size (zB HB)) : w.heap.size ≤ gb154)); have n3_ := Aside0.mk ((by rw [hg]; exact (below_size (zB HB)) : w.heap.size ≤ gb154)); clear HB; have HB := n0_; have BK154 := n1_; have GW154 := n2_; have GE154 := n3_; clear n0_ n1_ n2_ n3_; clear hb hbox hg; have hcz13_0 : w12.cell? ⟨gb154, 0, none⟩ = some (.int .i64 a0_0) := (blk_cell BK154.out 0).trans rfl; have hcz13_1 : w12.cell? ⟨gb154, 1, none⟩ = some (.int .i64 a0_1) := (blk_cell BK154.out 1).trans rfl; have hcz13_2 : w12.cell? ⟨gb154, 2, none⟩ = some (.bool a0_2) := (blk_cell BK154.out 2).trans rfl; have hfz13_0 := blk_frozen BK154.out 0; have hfz13_1 := blk_frozen BK154.out 1; have hfz13_2 := blk_frozen BK154.out 2; have p155 : 0 ≤ ((ji9) : Int) := zu; have q155 : (ji9) < (l1.length : Int) := zu; obtain ⟨ad155, e155, hx155_0⟩ := Kd.at_int HR1.out (ji9) p155 q155; cases e155; replace hx155_0 := zw HB hx155_0; replace p155 := eq_true p155; replace q155 := eq_true q155))
 go_ret
 exact ⟨by first | rfl | (simp [errW_none, errW_some] <;> rfl) | (simp only [← hji9]; first | rfl | (simp [errW_none, errW_some] <;> rfl)) | (simp [*, errW_none, errW_some] <;> rfl), by repeat (first | (with_reducible first | exact HB.out | apply qd | apply qe | apply qf | refine below_set ?_ GE154.out) | exact HB.out)⟩

end Go.Proofs.Ytglekonhdjploaa.XImageForms
