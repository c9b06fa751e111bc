-- Laid by this session's own printer (wip/xprint.py): each Go function that the law reaches as a plain Lean function, and that the call comes to it.
import Derived.Test.YtfgggmojdefidaaXCodeEachx0
import Derived.Test.YtfgggmojdefidaaXCodeEachx5
import Derived.Test.YtfgggmojdefidaaXCodeEachx6
namespace Go.Proofs.Ytfgggmojdefidaa.XCodeEach
open Go.RowKit Go.Proofs.YtfgggmojdefidaaW.PrintWords Go.Proofs.YtfgggmojdefidaaW.PrintLast Go.Proofs.YtfgggmojdefidaaW.PrintMore
attribute [local go_sem] max2_int min2_int max_two min_two max_three min_three max_four min_four   -- for this text's walks alone
set_option linter.unusedVariables false
set_option linter.unusedSimpArgs false

/-! ### darningref4_MayOp: function 15 -/
def darningref4_MayOp.j0 : Nat → Bool → Int → Int → Int → Int → List Int → Option (Bool)
 | 0, _, _, _, _, _, _ => none
 | k + 1, x38, x283000, x283001, x283002, x283003, x283004 => if x38 = true then (some false) else ((darningref4_opBytes.f k x283000 x283001 x283002 x283003 x283004).bind fun t283 => ((darningref4_DecodeOps.f k t283).bind fun t286 => (if (t286.length : Int) = 1 then (if 0 < (t286.length : Int) then ((darningref4_SameOp.f ((rd_T26 t286 0).f0) ((rd_T26 t286 0).f1) ((rd_T26 t286 0).f2) ((rd_T26 t286 0).f3) ((rd_T26 t286 0).f4) x283000 x283001 x283002 x283003 x283004).bind fun t290 => (some t290)) else (none)) else (some false))))
def darningref4_MayOp.f (k : Nat) (a0_0 : Int) (a0_1 : Int) (a0_2 : Int) (a0_3 : Int) (l0_4 : List Int) : Option (Bool) := if (l0_4.length : Int) > 255 then (darningref4_MayOp.j0 k true a0_0 a0_1 a0_2 a0_3 l0_4) else (if a0_1 < 0 then (darningref4_MayOp.j0 k true a0_0 a0_1 a0_2 a0_3 l0_4) else (if a0_1 > 65535 then (darningref4_MayOp.j0 k true a0_0 a0_1 a0_2 a0_3 l0_4) else (if a0_2 < 0 then (darningref4_MayOp.j0 k true a0_0 a0_1 a0_2 a0_3 l0_4) else (if a0_2 > 65535 then (darningref4_MayOp.j0 k true a0_0 a0_1 a0_2 a0_3 l0_4) else (if a0_3 < 0 then (darningref4_MayOp.j0 k true a0_0 a0_1 a0_2 a0_3 l0_4) else (darningref4_MayOp.j0 k (decide (a0_3 > 255)) a0_0 a0_1 a0_2 a0_3 l0_4))))))
theorem darningref4_MayOp.mono_l : ∀ k, (∀ y0 y1 y2 y3 y4 y5, LeO (darningref4_MayOp.j0 k y0 y1 y2 y3 y4 y5) (darningref4_MayOp.j0 (k + 1) y0 y1 y2 y3 y4 y5))
 | 0 => fun _ _ _ _ _ _ r h => by simp [darningref4_MayOp.j0] at h
 | k + 1 => by
  have ih0 := darningref4_MayOp.mono_l k
  ·
   intro y0 y1 y2 y3 y4 y5
   unfold darningref4_MayOp.j0
   repeat' first
   | (with_reducible exact ih0 _ _ _ _ _ _)
   | (with_reducible exact darningref4_DecodeOps.mono _ _)
   | (with_reducible exact darningref4_opBytes.mono _ _ _ _ _ _)
   | (with_reducible exact LeO.refl _)
   | (with_reducible exact LeO.none _)
   | (with_reducible refine LeO.ite ?_ ?_)
   | (with_reducible refine LeO.bind ?_ (fun _ => ?_))
   | exact ih0 _ _ _ _ _ _
   | exact darningref4_DecodeOps.mono _ _
   | exact darningref4_opBytes.mono _ _ _ _ _ _
   | exact LeO.none _
   | refine LeO.ite ?_ ?_
   | refine LeO.bind ?_ (fun _ => ?_)
theorem darningref4_MayOp.mono : ∀ a0 a1 a2 a3 a4 k, LeO (darningref4_MayOp.f k a0 a1 a2 a3 a4) (darningref4_MayOp.f (k + 1) a0 a1 a2 a3 a4) := by
 intro a0 a1 a2 a3 a4 k
 have ih0 := darningref4_MayOp.mono_l k
 unfold darningref4_MayOp.f
 repeat' first
   | (with_reducible exact ih0 _ _ _ _ _ _)
   | (with_reducible exact darningref4_DecodeOps.mono _ _)
   | (with_reducible exact darningref4_opBytes.mono _ _ _ _ _ _)
   | (with_reducible exact LeO.refl _)
   | (with_reducible exact LeO.none _)
   | (with_reducible refine LeO.ite ?_ ?_)
   | (with_reducible refine LeO.bind ?_ (fun _ => ?_))
   | exact ih0 _ _ _ _ _ _
   | exact darningref4_DecodeOps.mono _ _
   | exact darningref4_opBytes.mono _ _ _ _ _ _
   | exact LeO.none _
   | refine LeO.ite ?_ ?_
   | refine LeO.bind ?_ (fun _ => ?_)
def darningref4_MayOp.T5 : Bool × List (List Nat × List Nat) := (true, [([], []), ([0], [0]), ([1], [1]), ([2], [2]), ([3], [3]), ([4, 3], [3, 4]), ([5, 3], [3, 5]), ([3], [3]), ([6, 7, 3, 3], [3, 6, 7]), ([3, 8], [3, 8]), ([9, 8, 0, 1, 2, 3, 4, 5, 6, 7, 8, 9], [9])])
def darningref4_MayOp.B5 : List Nat := [0, 1, 3, 7, 15, 31, 63, 15, 255, 511, 1023]
theorem darningref4_MayOp.tab5 : rtab .any (opsOf Try.f15 5) = darningref4_MayOp.T5 := by kernel_rfl
theorem darningref4_MayOp.bits5 : waitsOk darningref4_MayOp.T5.2 darningref4_MayOp.B5 = true := by kernel_rfl
set_option maxHeartbeats 8000000 in
set_option maxRecDepth 100000 in
theorem darningref4_MayOp.calls (k : Nat) (a0_0 : Int) (a0_1 : Int) (a0_2 : Int) (a0_3 : Int) (A0_4 : Option Addr) (c0_4 : Nat) (l0_4 : List Int) (r : Bool) (w : World) (hr0_4 : Kd.C (Kd.int .u8) w A0_4 l0_4.length l0_4) (hc0_4 : l0_4.length ≤ c0_4) (h : darningref4_MayOp.f k a0_0 a0_1 a0_2 a0_3 l0_4 = some r) :
  Calls Try.prog 15 #[.agg #[.int .i64 a0_0, .int .i64 a0_1, .int .i64 a0_2, .int .i64 a0_3, .slice A0_4 l0_4.length c0_4]] w fun e w' => e = .returned (.bool r) ∧ Below w.heap.size w w' := by
 have hu26 := Try.underlying26
 have HR0_4 := Aside0.mk hr0_4
 have HC0_4 := Aside0.mk hc0_4
 clear hr0_4 hc0_4
 have HB := Aside0.mk (Below.refl w.heap.size w)
 have H : (if (l0_4.length : Int) > 255 then (darningref4_MayOp.j0 k true a0_0 a0_1 a0_2 a0_3 l0_4) else (if a0_1 < 0 then (darningref4_MayOp.j0 k true a0_0 a0_1 a0_2 a0_3 l0_4) else (if a0_1 > 65535 then (darningref4_MayOp.j0 k true a0_0 a0_1 a0_2 a0_3 l0_4) else (if a0_2 < 0 then (darningref4_MayOp.j0 k true a0_0 a0_1 a0_2 a0_3 l0_4) else (if a0_2 > 65535 then (darningref4_MayOp.j0 k true a0_0 a0_1 a0_2 a0_3 l0_4) else (if a0_3 < 0 then (darningref4_MayOp.j0 k true a0_0 a0_1 a0_2 a0_3 l0_4) else (darningref4_MayOp.j0 k (decide (a0_3 > 255)) a0_0 a0_1 a0_2 a0_3 l0_4))))))) = some r := h
 clear h
 have HC2 := Aside0.mk H
 clear H
 go_enter Try.func15, Try.ntmps15
 go_upto_region 1 with (first | ((with_reducible refine gate_dst (N := 1) rfl ?_); refine box_event ?hg (N := 1) ?hd (cs := #[.int .i64 a0_0, .int .i64 a0_1, .int .i64 a0_2, .int .i64 a0_3, .slice A0_4 l0_4.length c0_4]) (t := 26) ?hr ?_; (case hd => rfl); (case hg => rfl); (case hr => first | (go_simp; done) | (go_simp; rfl)); intro gb282 hg w3 hbox hb; have n0_ := Aside0.mk (below_step (by repeat (first | (with_reducible first | exact HB.out | apply below_alloc | apply pw_below_drewN | apply below_drew1) | exact HB.out)) hb); have n1_ := Aside0.mk (hbox); have n2_ := Aside0.mk ((by rw [hg]; exact (below_size (by repeat (first | (with_reducible first | exact HB.out | apply below_alloc | apply pw_below_drewN | apply below_drew1) | exact HB.out))) : w.heap.size ≤ gb282)); have n3_ := Aside0.mk ((by rw [hg]; exact (below_size (by repeat (first | (with_reducible first | exact HB.out | apply below_alloc | apply pw_below_drewN | apply below_drew1) | exact HB.out))) : w.heap.size ≤ gb282)); clear HB; have HB := n0_; have BK282 := n1_; have GW282 := n2_; have GE282 := n3_; clear n0_ n1_ n2_ n3_; clear hb hbox hg))
 (try simp only [Act.put, List.setIfInBounds_toArray, List.set_cons_zero, List.set_cons_succ])
 go_cut [38] (fun v38 wc => ∃ (kq : Nat) (x38_1 : Bool), v38 = .bool x38_1 ∧ Aside0 (darningref4_MayOp.j0 kq x38_1 a0_0 a0_1 a0_2 a0_3 l0_4 = some r) ∧ Aside0 (kq ≤ k) ∧ Aside0 (wc.heap[gb282]? = some (.cells #[.int .i64 a0_0, .int .i64 a0_1, .int .i64 a0_2, .int .i64 a0_3, (.slice A0_4 l0_4.length c0_4)] 26 (0, 0))) ∧ Aside0 (Below w.heap.size w wc))
 case first =>
  have H := HC2.out
  clear HC2
  by_cases c4 : (l0_4.length : Int) > 255
  ·
   rw [if_pos c4] at H
   have c4b0 : decide (255 < (l0_4.length : Int)) = true := decide_eq_true c4
   have c4b1 : decide (255 < l0_4.length) = true := decide_eq_true (by omega)
   clear c4
   (first | rw [c4b0] | (simp only [i64_w, i32_w]; rw [c4b0]) | skip)
   have H' := Aside0.mk H
   clear H
   have hcz5_0 : w3.cell? ⟨gb282, 0, none⟩ = some (.int .i64 a0_0) := (blk_cell BK282.out 0).trans rfl
   have hcz5_1 : w3.cell? ⟨gb282, 1, none⟩ = some (.int .i64 a0_1) := (blk_cell BK282.out 1).trans rfl
   have hcz5_2 : w3.cell? ⟨gb282, 2, none⟩ = some (.int .i64 a0_2) := (blk_cell BK282.out 2).trans rfl
   have hcz5_3 : w3.cell? ⟨gb282, 3, none⟩ = some (.int .i64 a0_3) := (blk_cell BK282.out 3).trans rfl
   have hcz5_4 : w3.cell? ⟨gb282, 4, none⟩ = some (.slice A0_4 l0_4.length c0_4) := (blk_cell BK282.out 4).trans rfl
   have hfz5_0 := blk_frozen BK282.out 0
   have hfz5_1 := blk_frozen BK282.out 1
   have hfz5_2 := blk_frozen BK282.out 2
   have hfz5_3 := blk_frozen BK282.out 3
   have hfz5_4 := blk_frozen BK282.out 4
   go_wp2
   go_meet
   case rel => exact ⟨_, (true), (by first | rfl | (simp; done) | (simp [*]; done)), H', ⟨by first | omega | exact Nat.le_refl _⟩, ⟨by (with_reducible repeat (first | refine blk_drewN ?_ _ | refine blk_drew ?_ | refine blk_alloc ?_ _)); exact BK282.out⟩, ⟨by repeat (first | (with_reducible first | exact HB.out | apply below_alloc | apply pw_below_drewN | apply below_drew1 | refine below_set ?_ GE282.out) | exact HB.out)⟩⟩
  ·
   rw [if_neg c4] at H
   have c4b0 : decide (255 < (l0_4.length : Int)) = false := decide_eq_false c4
   have c4b1 : decide (255 < l0_4.length) = false := decide_eq_false (by omega)
   clear c4
   (first | rw [c4b0] | (simp only [i64_w, i32_w]; rw [c4b0]) | skip)
   by_cases c6 : a0_1 < 0
   ·
    rw [if_pos c6] at H
    have c6b0 : decide (a0_1 < 0) = true := decide_eq_true c6
    clear c6
    have H' := Aside0.mk H
    clear H
    have hcz7_0 : w3.cell? ⟨gb282, 0, none⟩ = some (.int .i64 a0_0) := (blk_cell BK282.out 0).trans rfl
    have hcz7_1 : w3.cell? ⟨gb282, 1, none⟩ = some (.int .i64 a0_1) := (blk_cell BK282.out 1).trans rfl
    have hcz7_2 : w3.cell? ⟨gb282, 2, none⟩ = some (.int .i64 a0_2) := (blk_cell BK282.out 2).trans rfl
    have hcz7_3 : w3.cell? ⟨gb282, 3, none⟩ = some (.int .i64 a0_3) := (blk_cell BK282.out 3).trans rfl
    have hcz7_4 : w3.cell? ⟨gb282, 4, none⟩ = some (.slice A0_4 l0_4.length c0_4) := (blk_cell BK282.out 4).trans rfl
    have hfz7_0 := blk_frozen BK282.out 0
    have hfz7_1 := blk_frozen BK282.out 1
    have hfz7_2 := blk_frozen BK282.out 2
    have hfz7_3 := blk_frozen BK282.out 3
    have hfz7_4 := blk_frozen BK282.out 4
    go_wp2
    go_meet
    case rel => exact ⟨_, (true), (by first | rfl | (simp; done) | (simp [*]; done)), H', ⟨by first | omega | exact Nat.le_refl _⟩, ⟨by (with_reducible repeat (first | refine blk_drewN ?_ _ | refine blk_drew ?_ | refine blk_alloc ?_ _)); exact BK282.out⟩, ⟨by repeat (first | (with_reducible first | exact HB.out | apply below_alloc | apply pw_below_drewN | apply below_drew1 | refine below_set ?_ GE282.out) | exact HB.out)⟩⟩
   ·
    rw [if_neg c6] at H
    have c6b0 : decide (a0_1 < 0) = false := decide_eq_false c6
    clear c6
    by_cases c8 : a0_1 > 65535
    ·
     rw [if_pos c8] at H
     have c8b0 : decide (65535 < a0_1) = true := decide_eq_true c8
     clear c8
     have H' := Aside0.mk H
     clear H
     have hcz9_0 : w3.cell? ⟨gb282, 0, none⟩ = some (.int .i64 a0_0) := (blk_cell BK282.out 0).trans rfl
     have hcz9_1 : w3.cell? ⟨gb282, 1, none⟩ = some (.int .i64 a0_1) := (blk_cell BK282.out 1).trans rfl
     have hcz9_2 : w3.cell? ⟨gb282, 2, none⟩ = some (.int .i64 a0_2) := (blk_cell BK282.out 2).trans rfl
     have hcz9_3 : w3.cell? ⟨gb282, 3, none⟩ = some (.int .i64 a0_3) := (blk_cell BK282.out 3).trans rfl
     have hcz9_4 : w3.cell? ⟨gb282, 4, none⟩ = some (.slice A0_4 l0_4.length c0_4) := (blk_cell BK282.out 4).trans rfl
     have hfz9_0 := blk_frozen BK282.out 0
     have hfz9_1 := blk_frozen BK282.out 1
     have hfz9_2 := blk_frozen BK282.out 2
     have hfz9_3 := blk_frozen BK282.out 3
     have hfz9_4 := blk_frozen BK282.out 4
     go_wp2
     go_meet
     case rel => exact ⟨_, (true), (by first | rfl | (simp; done) | (simp [*]; done)), H', ⟨by first | omega | exact Nat.le_refl _⟩, ⟨by (with_reducible repeat (first | refine blk_drewN ?_ _ | refine blk_drew ?_ | refine blk_alloc ?_ _)); exact BK282.out⟩, ⟨by repeat (first | (with_reducible first | exact HB.out | apply below_alloc | apply pw_below_drewN | apply below_drew1 | refine below_set ?_ GE282.out) | exact HB.out)⟩⟩
    ·
     rw [if_neg c8] at H
     have c8b0 : decide (65535 < a0_1) = false := decide_eq_false c8
     clear c8
     by_cases c10 : a0_2 < 0
     ·
      rw [if_pos c10] at H
      have c10b0 : decide (a0_2 < 0) = true := decide_eq_true c10
      clear c10
      have H' := Aside0.mk H
      clear H
      have hcz11_0 : w3.cell? ⟨gb282, 0, none⟩ = some (.int .i64 a0_0) := (blk_cell BK282.out 0).trans rfl
      have hcz11_1 : w3.cell? ⟨gb282, 1, none⟩ = some (.int .i64 a0_1) := (blk_cell BK282.out 1).trans rfl
      have hcz11_2 : w3.cell? ⟨gb282, 2, none⟩ = some (.int .i64 a0_2) := (blk_cell BK282.out 2).trans rfl
      have hcz11_3 : w3.cell? ⟨gb282, 3, none⟩ = some (.int .i64 a0_3) := (blk_cell BK282.out 3).trans rfl
      have hcz11_4 : w3.cell? ⟨gb282, 4, none⟩ = some (.slice A0_4 l0_4.length c0_4) := (blk_cell BK282.out 4).trans rfl
      have hfz11_0 := blk_frozen BK282.out 0
      have hfz11_1 := blk_frozen BK282.out 1
      have hfz11_2 := blk_frozen BK282.out 2
      have hfz11_3 := blk_frozen BK282.out 3
      have hfz11_4 := blk_frozen BK282.out 4
      go_wp2
      go_meet
      case rel => exact ⟨_, (true), (by first | rfl | (simp; done) | (simp [*]; done)), H', ⟨by first | omega | exact Nat.le_refl _⟩, ⟨by (with_reducible repeat (first | refine blk_drewN ?_ _ | refine blk_drew ?_ | refine blk_alloc ?_ _)); exact BK282.out⟩, ⟨by repeat (first | (with_reducible first | exact HB.out | apply below_alloc | apply pw_below_drewN | apply below_drew1 | refine below_set ?_ GE282.out) | exact HB.out)⟩⟩
     ·
      rw [if_neg c10] at H
      have c10b0 : decide (a0_2 < 0) = false := decide_eq_false c10
      clear c10
      by_cases c12 : a0_2 > 65535
      ·
       rw [if_pos c12] at H
       have c12b0 : decide (65535 < a0_2) = true := decide_eq_true c12
       clear c12
       have H' := Aside0.mk H
       clear H
       have hcz13_0 : w3.cell? ⟨gb282, 0, none⟩ = some (.int .i64 a0_0) := (blk_cell BK282.out 0).trans rfl
       have hcz13_1 : w3.cell? ⟨gb282, 1, none⟩ = some (.int .i64 a0_1) := (blk_cell BK282.out 1).trans rfl
       have hcz13_2 : w3.cell? ⟨gb282, 2, none⟩ = some (.int .i64 a0_2) := (blk_cell BK282.out 2).trans rfl
       have hcz13_3 : w3.cell? ⟨gb282, 3, none⟩ = some (.int .i64 a0_3) := (blk_cell BK282.out 3).trans rfl
       have hcz13_4 : w3.cell? ⟨gb282, 4, none⟩ = some (.slice A0_4 l0_4.length c0_4) := (blk_cell BK282.out 4).trans rfl
       have hfz13_0 := blk_frozen BK282.out 0
       have hfz13_1 := blk_frozen BK282.out 1
       have hfz13_2 := blk_frozen BK282.out 2
       have hfz13_3 := blk_frozen BK282.out 3
       have hfz13_4 := blk_frozen BK282.out 4
       go_wp2
       go_meet
       case rel => exact ⟨_, (true), (by first | rfl | (simp; done) | (simp [*]; done)), H', ⟨by first | omega | exact Nat.le_refl _⟩, ⟨by (with_reducible repeat (first | refine blk_drewN ?_ _ | refine blk_drew ?_ | refine blk_alloc ?_ _)); exact BK282.out⟩, ⟨by repeat (first | (with_reducible first | exact HB.out | apply below_alloc | apply pw_below_drewN | apply below_drew1 | refine below_set ?_ GE282.out) | exact HB.out)⟩⟩
      ·
       rw [if_neg c12] at H
       have c12b0 : decide (65535 < a0_2) = false := decide_eq_false c12
       clear c12
       by_cases c14 : a0_3 < 0
       ·
        rw [if_pos c14] at H
        have c14b0 : decide (a0_3 < 0) = true := decide_eq_true c14
        clear c14
        have H' := Aside0.mk H
        clear H
        have hcz15_0 : w3.cell? ⟨gb282, 0, none⟩ = some (.int .i64 a0_0) := (blk_cell BK282.out 0).trans rfl
        have hcz15_1 : w3.cell? ⟨gb282, 1, none⟩ = some (.int .i64 a0_1) := (blk_cell BK282.out 1).trans rfl
        have hcz15_2 : w3.cell? ⟨gb282, 2, none⟩ = some (.int .i64 a0_2) := (blk_cell BK282.out 2).trans rfl
        have hcz15_3 : w3.cell? ⟨gb282, 3, none⟩ = some (.int .i64 a0_3) := (blk_cell BK282.out 3).trans rfl
        have hcz15_4 : w3.cell? ⟨gb282, 4, none⟩ = some (.slice A0_4 l0_4.length c0_4) := (blk_cell BK282.out 4).trans rfl
        have hfz15_0 := blk_frozen BK282.out 0
        have hfz15_1 := blk_frozen BK282.out 1
        have hfz15_2 := blk_frozen BK282.out 2
        have hfz15_3 := blk_frozen BK282.out 3
        have hfz15_4 := blk_frozen BK282.out 4
        go_wp2
        go_meet
        case rel => exact ⟨_, (true), (by first | rfl | (simp; done) | (simp [*]; done)), H', ⟨by first | omega | exact Nat.le_refl _⟩, ⟨by (with_reducible repeat (first | refine blk_drewN ?_ _ | refine blk_drew ?_ | refine blk_alloc ?_ _)); exact BK282.out⟩, ⟨by repeat (first | (with_reducible first | exact HB.out | apply below_alloc | apply pw_below_drewN | apply below_drew1 | refine below_set ?_ GE282.out) | exact HB.out)⟩⟩
       ·
        rw [if_neg c14] at H
        have c14b0 : decide (a0_3 < 0) = false := decide_eq_false c14
        clear c14
        have H' := Aside0.mk H
        clear H
        have hcz16_0 : w3.cell? ⟨gb282, 0, none⟩ = some (.int .i64 a0_0) := (blk_cell BK282.out 0).trans rfl
        have hcz16_1 : w3.cell? ⟨gb282, 1, none⟩ = some (.int .i64 a0_1) := (blk_cell BK282.out 1).trans rfl
        have hcz16_2 : w3.cell? ⟨gb282, 2, none⟩ = some (.int .i64 a0_2) := (blk_cell BK282.out 2).trans rfl
        have hcz16_3 : w3.cell? ⟨gb282, 3, none⟩ = some (.int .i64 a0_3) := (blk_cell BK282.out 3).trans rfl
        have hcz16_4 : w3.cell? ⟨gb282, 4, none⟩ = some (.slice A0_4 l0_4.length c0_4) := (blk_cell BK282.out 4).trans rfl
        have hfz16_0 := blk_frozen BK282.out 0
        have hfz16_1 := blk_frozen BK282.out 1
        have hfz16_2 := blk_frozen BK282.out 2
        have hfz16_3 := blk_frozen BK282.out 3
        have hfz16_4 := blk_frozen BK282.out 4
        go_wp2
        go_meet
        case rel => exact ⟨_, (decide (a0_3 > 255)), (by first | rfl | (simp; done) | (simp [*]; done)), H', ⟨by first | omega | exact Nat.le_refl _⟩, ⟨by (with_reducible repeat (first | refine blk_drewN ?_ _ | refine blk_drew ?_ | refine blk_alloc ?_ _)); exact BK282.out⟩, ⟨by repeat (first | (with_reducible first | exact HB.out | apply below_alloc | apply pw_below_drewN | apply below_drew1 | refine below_set ?_ GE282.out) | exact HB.out)⟩⟩
 case rest =>
  clear HC2
  try clear c1
  try clear p2
  try clear c4
  try clear c4b0
  try clear c4b1
  try clear c6
  try clear c6b0
  try clear c8
  try clear c8b0
  try clear c10
  try clear c10b0
  try clear c12
  try clear c12b0
  try clear c14
  try clear c14b0
  try clear c15
  try clear hcz11_0
  try clear hcz11_1
  try clear hcz11_2
  try clear hcz11_3
  try clear hcz11_4
  try clear hcz13_0
  try clear hcz13_1
  try clear hcz13_2
  try clear hcz13_3
  try clear hcz13_4
  try clear hcz15_0
  try clear hcz15_1
  try clear hcz15_2
  try clear hcz15_3
  try clear hcz15_4
  try clear hcz16_0
  try clear hcz16_1
  try clear hcz16_2
  try clear hcz16_3
  try clear hcz16_4
  try clear hcz5_0
  try clear hcz5_1
  try clear hcz5_2
  try clear hcz5_3
  try clear hcz5_4
  try clear hcz7_0
  try clear hcz7_1
  try clear hcz7_2
  try clear hcz7_3
  try clear hcz7_4
  try clear hcz9_0
  try clear hcz9_1
  try clear hcz9_2
  try clear hcz9_3
  try clear hcz9_4
  try clear hfz11_0
  try clear hfz11_1
  try clear hfz11_2
  try clear hfz11_3
  try clear hfz11_4
  try clear hfz13_0
  try clear hfz13_1
  try clear hfz13_2
  try clear hfz13_3
  try clear hfz13_4
  try clear hfz15_0
  try clear hfz15_1
  try clear hfz15_2
  try clear hfz15_3
  try clear hfz15_4
  try clear hfz16_0
  try clear hfz16_1
  try clear hfz16_2
  try clear hfz16_3
  try clear hfz16_4
  try clear hfz5_0
  try clear hfz5_1
  try clear hfz5_2
  try clear hfz5_3
  try clear hfz5_4
  try clear hfz7_0
  try clear hfz7_1
  try clear hfz7_2
  try clear hfz7_3
  try clear hfz7_4
  try clear hfz9_0
  try clear hfz9_1
  try clear hfz9_2
  try clear hfz9_3
  try clear hfz9_4
  obtain ⟨kq, x38_1, rfl, HA, HJ1, BK282, HB⟩ := hcut
  cases kq with
  | zero => exact absurd HA.out (by simp [darningref4_MayOp.j0])
  | succ kj1 =>
   have H := HA.out
   clear HA
   simp only [darningref4_MayOp.j0] at H
   by_cases c17 : x38_1 = true
   ·
    subst c17
    have H1 : (some false) = some r := by rw [if_pos rfl] at H; exact H
    clear H
    have H := H1
    clear H1
    obtain rfl := Option.some.inj H
    go_wp2
    go_ret
    exact ⟨by first | rfl | (simp [errW_none, errW_some] <;> rfl) | (simp [*, errW_none, errW_some] <;> rfl), by repeat (first | (with_reducible first | exact HB.out | apply below_alloc | apply pw_below_drewN | apply below_drew1 | refine below_set ?_ GE282.out) | exact HB.out)⟩
   ·
    replace c17 := Bool.eq_false_iff.mpr c17
    subst c17
    have H1 : ((darningref4_opBytes.f kj1 a0_0 a0_1 a0_2 a0_3 l0_4).bind fun t283 => ((darningref4_DecodeOps.f kj1 t283).bind fun t286 => (if (t286.length : Int) = 1 then (if 0 < (t286.length : Int) then ((darningref4_SameOp.f ((rd_T26 t286 0).f0) ((rd_T26 t286 0).f1) ((rd_T26 t286 0).f2) ((rd_T26 t286 0).f3) ((rd_T26 t286 0).f4) a0_0 a0_1 a0_2 a0_3 l0_4).bind fun t290 => (some t290)) else (none)) else (some false)))) = some r := by rw [if_neg (show ¬ (false = true) by decide)] at H; exact H
    clear H
    have H := H1
    clear H1
    replace H := Option.bind_eq_some_iff.mp H
    obtain ⟨t283, A180, H⟩ := H
    replace H : ((darningref4_DecodeOps.f kj1 t283).bind fun t286 => (if (t286.length : Int) = 1 then (if 0 < (t286.length : Int) then ((darningref4_SameOp.f ((rd_T26 t286 0).f0) ((rd_T26 t286 0).f1) ((rd_T26 t286 0).f2) ((rd_T26 t286 0).f3) ((rd_T26 t286 0).f4) a0_0 a0_1 a0_2 a0_3 l0_4).bind fun t290 => (some t290)) else (none)) else (some false))) = some r := H
    have A18 := Aside0.mk A180
    clear A180
    replace H := Option.bind_eq_some_iff.mp H
    obtain ⟨t286, A190, H⟩ := H
    replace H : (if (t286.length : Int) = 1 then (if 0 < (t286.length : Int) then ((darningref4_SameOp.f ((rd_T26 t286 0).f0) ((rd_T26 t286 0).f1) ((rd_T26 t286 0).f2) ((rd_T26 t286 0).f3) ((rd_T26 t286 0).f4) a0_0 a0_1 a0_2 a0_3 l0_4).bind fun t290 => (some t290)) else (none)) else (some false)) = some r := H
    have A19 := Aside0.mk A190
    clear A190
    by_cases c20 : (t286.length : Int) = 1
    ·
     rw [if_pos c20] at H
     have c20b0 : ((t286.length : Int) == 1) = true := beq_iff_eq.mpr c20
     have c20b1 : ((t286.length : Int) != 1) = false := bne_eq_false_iff_eq.mpr c20
     clear c20
     by_cases c21 : 0 < (t286.length : Int)
     ·
      rw [if_pos c21] at H
      have c21b0 : decide (0 < (t286.length : Int)) = true := decide_eq_true c21
      have c21b1 : decide (0 < t286.length) = true := decide_eq_true (by omega)
      clear c21
      replace H := Option.bind_eq_some_iff.mp H
      obtain ⟨t290, A220, H⟩ := H
      replace H : (some t290) = some r := H
      have A22 := Aside0.mk A220
      clear A220
      obtain rfl := Option.some.inj H
      have hcz23_0 : wc.cell? ⟨gb282, 0, none⟩ = some (.int .i64 a0_0) := (blk_cell BK282.out 0).trans rfl
      have hcz23_1 : wc.cell? ⟨gb282, 1, none⟩ = some (.int .i64 a0_1) := (blk_cell BK282.out 1).trans rfl
      have hcz23_2 : wc.cell? ⟨gb282, 2, none⟩ = some (.int .i64 a0_2) := (blk_cell BK282.out 2).trans rfl
      have hcz23_3 : wc.cell? ⟨gb282, 3, none⟩ = some (.int .i64 a0_3) := (blk_cell BK282.out 3).trans rfl
      have hcz23_4 : wc.cell? ⟨gb282, 4, none⟩ = some (.slice A0_4 l0_4.length c0_4) := (blk_cell BK282.out 4).trans rfl
      have hfz23_0 := blk_frozen BK282.out 0
      have hfz23_1 := blk_frozen BK282.out 1
      have hfz23_2 := blk_frozen BK282.out 2
      have hfz23_3 := blk_frozen BK282.out 3
      have hfz23_4 := blk_frozen BK282.out 4
      try go_wp2_with (first | ((with_reducible refine gate_callee (f := 41) rfl ?_); refine goesL_ (some 40) rfl rfl Try.func41 (by kernel_rfl) rfl #[.agg #[.int .i64 a0_0, .int .i64 a0_1, .int .i64 a0_2, .int .i64 a0_3, .slice A0_4 l0_4.length c0_4]] rfl (by (try simp only [List.map_toArray, List.map_cons, List.map_nil]); first | done | rfl | (simp only [List.length_drop, List.length_take]; rfl)) ?_; (with_reducible refine (darningref4_opBytes.calls kj1 a0_0 a0_1 a0_2 a0_3 _ _ l0_4 t283 _ ?side1 ?side2 A18.out).mono ?_); (case side1 => repeat (first | exact (Kd.C_below HR0_4.out HB.out) | (with_reducible refine Kd.C_alloc ?_ _) | (with_reducible refine Kd.C_drewN ?_ _) | (with_reducible refine Kd.C_drew ?_))); (case side2 => exact HC0_4.out); rintro e w24 ⟨v284, rfl, ho0, hb⟩; refine ⟨_, rfl, ?_⟩; have n0_ := Aside0.mk (Kd.R_lower ho0 (below_size (by repeat (first | (with_reducible first | exact HB.out | apply below_alloc | apply pw_below_drewN | apply below_drew1 | refine below_set ?_ GE282.out) | exact HB.out)))); have n1_ := Aside0.mk (blk_below (g := gb282) (o := .cells #[.int .i64 a0_0, .int .i64 a0_1, .int .i64 a0_2, .int .i64 a0_3, .slice A0_4 l0_4.length c0_4] 26 (0, 0)) (by (with_reducible repeat (first | refine blk_drewN ?_ _ | refine blk_drew ?_ | refine blk_alloc ?_ _)); exact BK282.out) hb); have n2_ := Aside0.mk (below_step (by repeat (first | (with_reducible first | exact HB.out | apply below_alloc | apply pw_below_drewN | apply below_drew1 | refine below_set ?_ GE282.out) | exact HB.out)) hb); clear BK282; clear HB; have HO285 := n0_; have BK282 := n1_; have HB := n2_; clear n0_ n1_ n2_; (try clear hb); (try clear hb2); (try clear hk); (try clear hi); (try clear ho0); obtain ⟨Ao25, co25, eo25⟩ := Kd.R_slice HO285.out; subst eo25) | ((with_reducible refine gate_callee (f := 20) rfl ?_); refine goesL_ (some 42) rfl rfl Try.func20 (by kernel_rfl) rfl #[.slice Ao25 t283.length co25] rfl (by (try simp only [List.map_toArray, List.map_cons, List.map_nil]); first | done | rfl | (simp only [List.length_drop, List.length_take]; rfl)) ?_; (with_reducible refine (darningref4_DecodeOps.calls kj1 (fun k_ => some k_ = (.slice Ao25 t283.length co25 : Value).ownBlock) _ _ t283 t286 _ ?side1 A19.out).mono ?_); (case side1 => exact Kd.R_V (Kd.R_tight rfl (Kd.R_types (HO285.out) BK282.out (by decide)))); rintro e w26 ⟨v287, rfl, ho0, hb⟩; refine ⟨_, rfl, ?_⟩; have n0_ := Aside0.mk (Kd.R_below (by (with_reducible repeat (first | apply Kd.R_alloc | apply Kd.R_drewN | apply Kd.R_drew)); exact HO285.out) hb); have n1_ := Aside0.mk (Kd.S_lower (Kd.S_newB (Kd.S_new' (Kd.S_mono (ok' := fun k_ => True) ho0 (fun _ hk_ => trivial)) (Kd.R_lt (by (with_reducible repeat (first | apply Kd.R_alloc | apply Kd.R_drewN | apply Kd.R_drew)); exact HO285.out))) (g := gb282) (o := .cells #[.int .i64 a0_0, .int .i64 a0_1, .int .i64 a0_2, .int .i64 a0_3, .slice A0_4 l0_4.length c0_4] 26 (0, 0)) (by (with_reducible repeat (first | refine blk_drewN ?_ _ | refine blk_drew ?_ | refine blk_alloc ?_ _)); exact BK282.out)) (below_size (by repeat (first | (with_reducible first | exact HB.out | apply below_alloc | apply pw_below_drewN | apply below_drew1 | refine below_set ?_ GE282.out) | exact HB.out)))); have n2_ := Aside0.mk (blk_below (g := gb282) (o := .cells #[.int .i64 a0_0, .int .i64 a0_1, .int .i64 a0_2, .int .i64 a0_3, .slice A0_4 l0_4.length c0_4] 26 (0, 0)) (by (with_reducible repeat (first | refine blk_drewN ?_ _ | refine blk_drew ?_ | refine blk_alloc ?_ _)); exact BK282.out) hb); have n3_ := Aside0.mk (below_step (by repeat (first | (with_reducible first | exact HB.out | apply below_alloc | apply pw_below_drewN | apply below_drew1 | refine below_set ?_ GE282.out) | exact HB.out)) hb); clear HO285; clear BK282; clear HB; have HO285 := n0_; have HO288 := n1_; have BK282 := n2_; have HB := n3_; clear n0_ n1_ n2_ n3_; (try clear hb); (try clear hb2); (try clear hk); (try clear hi); (try clear ho0)))
      have n0_ := Aside0.mk (Kd.R_drew HO285.out)
      have n1_ := Aside0.mk (Kd.S_drew HO288.out)
      have n2_ := Aside0.mk (blk_drew BK282.out)
      have n3_ := Aside0.mk (below_drew1 HB.out)
      clear HO285
      clear HO288
      clear BK282
      clear HB
      have HO285 := n0_
      have HO288 := n1_
      have BK282 := n2_
      have HB := n3_
      clear n0_ n1_ n2_ n3_
      obtain ⟨Ao28, co28, eo28⟩ := Kd.S_slice HO288.out
      (first | subst eo28 | (injection eo28 with f1_ f2_ f3_; have f4_ := f1_.symm; have f5_ := f3_.symm; clear f1_ f2_ f3_; subst f4_; subst f5_))
      have p289 : 0 ≤ (0 : Int) := (by omega)
      have q289 : 0 < (t286.length : Int) := of_decide_eq_true (by first | (with_reducible assumption) | assumption)
      obtain ⟨ad289, A289_4, c289_4, e289, hx289_0, hx289_1, hx289_2, hx289_3, hx289_4, hl289_4, hi289_4⟩ := at_T26 (Kd.S_reads' HO288.out).2.2 0 p289 q289
      cases e289
      obtain ⟨ce289, hce289, hMe289, hcc289⟩ := Kd.S_get HO288.out z26 0 p289 (by first | exact q289 | exact of_decide_eq_true (by first | (with_reducible assumption) | assumption) | (have e_ := (Kd.S_reads' HO288.out).1; omega))
      obtain ⟨ve289_4, rfl, ge289_4⟩ := k26_openM hMe289
      have hv289_4 := hcc289 4 _ rfl
      rw [add_field _ _ 4 (by omega)] at hv289_4
      replace hv289_4 := Option.some.inj (hv289_4.symm.trans hx289_4)
      rw [hv289_4] at ge289_4
      have HL289_4 := Aside0.mk (show Kd.R (Kd.int .u8) 5 _ _ _ _ ((rd_T26 t286 0).f4) from ge289_4)
      clear hv289_4 ge289_4
      clear hcc289 hce289
      have qi289 : (0 < t286.length) = True := eq_true (by omega)
      (try rw [show ((0 : Int)).toNat = 0 from rfl] at hx289_0)
      (try rw [show 0 * 5 = 0 from rfl] at hx289_0)
      (try rw [Addr.add_zero'] at hx289_0)
      (try rw [show ((0 : Int)).toNat = 0 from rfl] at hx289_1)
      (try rw [show 0 * 5 = 0 from rfl] at hx289_1)
      (try rw [Addr.add_zero'] at hx289_1)
      (try rw [show ((0 : Int)).toNat = 0 from rfl] at hx289_2)
      (try rw [show 0 * 5 = 0 from rfl] at hx289_2)
      (try rw [Addr.add_zero'] at hx289_2)
      (try rw [show ((0 : Int)).toNat = 0 from rfl] at hx289_3)
      (try rw [show 0 * 5 = 0 from rfl] at hx289_3)
      (try rw [Addr.add_zero'] at hx289_3)
      (try rw [show ((0 : Int)).toNat = 0 from rfl] at hx289_4)
      (try rw [show 0 * 5 = 0 from rfl] at hx289_4)
      (try rw [Addr.add_zero'] at hx289_4)
      have HR289_4 := Aside0.mk hi289_4
      have HC289_4 := Aside0.mk hl289_4
      clear hi289_4 hl289_4
      replace p289 := eq_true p289
      replace q289 := eq_true q289
      refine start_ (n := 11) (S := fun w' => w'.cell? ⟨gb282, 0, none⟩ = some (.int .i64 a0_0) ∧ w'.cell? ⟨gb282, 1, none⟩ = some (.int .i64 a0_1) ∧ w'.cell? ⟨gb282, 2, none⟩ = some (.int .i64 a0_2) ∧ w'.cell? ⟨gb282, 3, none⟩ = some (.int .i64 a0_3) ∧ w'.cell? ⟨gb282, 4, none⟩ = some (.slice A0_4 l0_4.length c0_4) ∧ w'.cell? ad289 = some (.int .i64 ((rd_T26 t286 0).f0)) ∧ w'.cell? ⟨ad289.block, ad289.off + 1, none⟩ = some (.int .i64 ((rd_T26 t286 0).f1)) ∧ w'.cell? ⟨ad289.block, ad289.off + 2, none⟩ = some (.int .i64 ((rd_T26 t286 0).f2)) ∧ w'.cell? ⟨ad289.block, ad289.off + 3, none⟩ = some (.int .i64 ((rd_T26 t286 0).f3)) ∧ w'.cell? ⟨ad289.block, ad289.off + 4, none⟩ = some (.slice A289_4 ((rd_T26 t286 0).f4).length c289_4)) (ds := []) (onA 11 0) (by kernel_rfl) rfl rfl ⟨(blk_cell BK282.out 0).trans rfl, (blk_cell BK282.out 1).trans rfl, (blk_cell BK282.out 2).trans rfl, (blk_cell BK282.out 3).trans rfl, (blk_cell BK282.out 4).trans rfl, hx289_0, hx289_1, hx289_2, hx289_3, hx289_4⟩ (fun hHeld => ?_); refine with_tabW darningref4_MayOp.tab5 darningref4_MayOp.bits5 (fun HT_ HW_ => ?_)
      generalize w26.drew = w27 at HO285 HO288 BK282 HB HL289_4 HR289_4 hx289_0 hx289_1 hx289_2 hx289_3 hx289_4 hHeld ⊢
      refine pure_ (i := 0) (N := some 43) (v := ?_) (a' := ?_) (onA 11 1) rfl rfl (any_of HT_.out (by kernel_rfl)) (fun _ _ _ h => h) (Or.inl ⟨by rfl, ?_⟩) ?_ ?_
      rotate_left
      ·
       intro w'
       go_simp
       with_reducible rfl
      rotate_left
      ·
       simp only [Act.put, List.setIfInBounds_toArray, List.set_cons_zero, List.set_cons_succ, i64_w, i32_w]
       rfl
      refine pure_ (i := 1) (N := some 44) (v := ?_) (a' := ?_) (onA 11 2) rfl rfl (any_of HT_.out (by kernel_rfl)) (fun _ _ _ h => h) (Or.inl ⟨by rfl, ?_⟩) ?_ ?_
      rotate_left
      ·
       intro w'
       go_simp
       with_reducible rfl
      rotate_left
      ·
       simp only [Act.put, List.setIfInBounds_toArray, List.set_cons_zero, List.set_cons_succ, i64_w, i32_w]
       rfl
      refine pure_ (i := 2) (N := some 45) (v := ?_) (a' := ?_) (onA 11 3) rfl rfl (any_of HT_.out (by kernel_rfl)) (fun _ _ _ h => h) (Or.inl ⟨by rfl, ?_⟩) ?_ ?_
      rotate_left
      ·
       intro w'
       go_simp
       with_reducible rfl
      rotate_left
      ·
       simp only [Act.put, List.setIfInBounds_toArray, List.set_cons_zero, List.set_cons_succ, i64_w, i32_w]
       rfl
      refine pure_ (i := 3) (N := some 46) (v := ?_) (a' := ?_) (onA 11 4) rfl rfl (any_of HT_.out (by kernel_rfl)) (fun _ _ _ h => h) (Or.inl ⟨by rfl, ?_⟩) ?_ ?_
      rotate_left
      ·
       intro w'
       go_simp
       with_reducible rfl
      rotate_left
      ·
       simp only [Act.put, List.setIfInBounds_toArray, List.set_cons_zero, List.set_cons_succ, i64_w, i32_w]
       rfl
      refine pure_ (i := 4) (N := some 47) (v := ?_) (a' := ?_) (onA 11 5) rfl rfl (any_of HT_.out (by kernel_rfl)) (fun _ _ _ h => h) (Or.inl ⟨by rfl, ?_⟩) ?_ ?_
      rotate_left
      ·
       intro w'
       go_simp
       with_reducible rfl
      rotate_left
      ·
       simp only [Act.put, List.setIfInBounds_toArray, List.set_cons_zero, List.set_cons_succ, i64_w, i32_w]
       rfl
      refine pure_ (i := 5) (N := some 48) (v := ?_) (a' := ?_) (onA 11 6) rfl rfl (any_of HT_.out (by kernel_rfl)) (fun _ _ _ h => h) (Or.inl ⟨by rfl, ?_⟩) ?_ ?_
      rotate_left
      ·
       intro w'
       go_simp
       with_reducible rfl
      rotate_left
      ·
       simp only [Act.put, List.setIfInBounds_toArray, List.set_cons_zero, List.set_cons_succ, i64_w, i32_w]
       rfl
      refine take_ (i := 6) (N := some 49) (v := ?_) (a' := ?_) (onA 11 7) rfl rfl (take_ofW HT_.out HW_.out (by kernel_rfl)) (fun _ _ _ h => h) (Or.inl ⟨by rfl, ?_⟩) hHeld ?_ ?_
      rotate_left
      ·
       rintro w' ⟨s0, s1, s2, s3, s4, s5, s6, s7, s8, s9⟩
       go_simp
       with_reducible rfl
      rotate_left
      ·
       simp only [Act.put, List.setIfInBounds_toArray, List.set_cons_zero, List.set_cons_succ, i64_w, i32_w]
       rfl
      refine take_ (i := 7) (N := some 50) (v := ?_) (a' := ?_) (onA 11 8) rfl rfl (take_ofW HT_.out HW_.out (by kernel_rfl)) (fun _ _ _ h => h) (Or.inl ⟨by rfl, ?_⟩) hHeld ?_ ?_
      rotate_left
      ·
       rintro w' ⟨s0, s1, s2, s3, s4, s5, s6, s7, s8, s9⟩
       go_simp
       with_reducible rfl
      rotate_left
      ·
       simp only [Act.put, List.setIfInBounds_toArray, List.set_cons_zero, List.set_cons_succ, i64_w, i32_w]
       rfl
      refine one_ (i := 8) (N := some 51) (onA 11 9) rfl rfl (one_of HT_.out (by kernel_rfl)) (by decide) (fun K hK => ?_)
      refine goes_ Try.func21 (by kernel_rfl) rfl #[.agg #[.int .i64 ((rd_T26 t286 0).f0), .int .i64 ((rd_T26 t286 0).f1), .int .i64 ((rd_T26 t286 0).f2), .int .i64 ((rd_T26 t286 0).f3), .slice A289_4 ((rd_T26 t286 0).f4).length c289_4], .agg #[.int .i64 a0_0, .int .i64 a0_1, .int .i64 a0_2, .int .i64 a0_3, .slice A0_4 l0_4.length c0_4]] (by rfl) rfl rfl (by (try simp only [List.map_toArray, List.map_cons, List.map_nil]); first | done | rfl | (simp only [List.length_drop, List.length_take]; rfl)) ?_
      with_reducible refine (darningref4_SameOp.calls ((rd_T26 t286 0).f0) ((rd_T26 t286 0).f1) ((rd_T26 t286 0).f2) ((rd_T26 t286 0).f3) _ _ ((rd_T26 t286 0).f4) a0_0 a0_1 a0_2 a0_3 _ _ l0_4 t290 _ ?side1 ?side2 ?side3 ?side4 A22.out).mono ?_
      (case side1 => repeat (first | exact (by repeat (first | (with_reducible exact HR289_4.out) | (with_reducible refine Kd.C_alloc ?_ _) | (with_reducible refine Kd.C_drewN ?_ _) | (with_reducible refine Kd.C_drew ?_) | exact HR289_4.out)) | (with_reducible refine Kd.C_alloc ?_ _) | (with_reducible refine Kd.C_drewN ?_ _) | (with_reducible refine Kd.C_drew ?_)))
      (case side2 => exact HC289_4.out)
      (case side3 => repeat (first | exact (Kd.C_below HR0_4.out HB.out) | (with_reducible refine Kd.C_alloc ?_ _) | (with_reducible refine Kd.C_drewN ?_ _) | (with_reducible refine Kd.C_drew ?_)))
      (case side4 => exact HC0_4.out)
      rintro e w29 ⟨rfl, hb⟩
      have HS5_ := (hb.cell (World.block_lt_of_cell? _ _ (hHeld.2.2.2.2.2.1))).trans (hHeld.2.2.2.2.2.1)
      have HS6_ := (hb.cell (World.block_lt_of_cell? _ _ (hHeld.2.2.2.2.2.2.1))).trans (hHeld.2.2.2.2.2.2.1)
      have HS7_ := (hb.cell (World.block_lt_of_cell? _ _ (hHeld.2.2.2.2.2.2.2.1))).trans (hHeld.2.2.2.2.2.2.2.1)
      have HS8_ := (hb.cell (World.block_lt_of_cell? _ _ (hHeld.2.2.2.2.2.2.2.2.1))).trans (hHeld.2.2.2.2.2.2.2.2.1)
      have HS9_ := (hb.cell (World.block_lt_of_cell? _ _ (hHeld.2.2.2.2.2.2.2.2.2))).trans (hHeld.2.2.2.2.2.2.2.2.2)
      refine ⟨_, rfl, ?_⟩
      have n0_ := Aside0.mk (Kd.R_below (by (with_reducible repeat (first | apply Kd.R_alloc | apply Kd.R_drewN | apply Kd.R_drew)); exact HO285.out) hb)
      have n1_ := Aside0.mk (Kd.S_below (by (with_reducible repeat (first | apply Kd.S_alloc | apply Kd.S_drewN | apply Kd.S_drew)); exact HO288.out) hb)
      have n2_ := Aside0.mk (Kd.R_below (by (with_reducible repeat (first | apply Kd.R_alloc | apply Kd.R_drewN | apply Kd.R_drew)); exact HL289_4.out) hb)
      have n3_ := Aside0.mk (blk_below (g := gb282) (o := .cells #[.int .i64 a0_0, .int .i64 a0_1, .int .i64 a0_2, .int .i64 a0_3, .slice A0_4 l0_4.length c0_4] 26 (0, 0)) (by (with_reducible repeat (first | refine blk_drewN ?_ _ | refine blk_drew ?_ | refine blk_alloc ?_ _)); exact BK282.out) hb)
      have n4_ := Aside0.mk (Kd.C_below (by repeat (first | (with_reducible exact HR289_4.out) | (with_reducible refine Kd.C_alloc ?_ _) | (with_reducible refine Kd.C_drewN ?_ _) | (with_reducible refine Kd.C_drew ?_) | exact HR289_4.out)) hb)
      have n5_ := Aside0.mk (below_step (by repeat (first | (with_reducible first | exact HB.out | apply below_alloc | apply pw_below_drewN | apply below_drew1 | refine below_set ?_ GE282.out) | exact HB.out)) hb)
      clear HO285
      clear HO288
      clear HL289_4
      clear BK282
      clear HR289_4
      clear HB
      have HO285 := n0_
      have HO288 := n1_
      have HL289_4 := n2_
      have BK282 := n3_
      have HR289_4 := n4_
      have HB := n5_
      clear n0_ n1_ n2_ n3_ n4_ n5_
      (try clear hb)
      (try clear hb2)
      (try clear hk)
      (try clear hi)
      refine hK.out _ _ ⟨(blk_cell BK282.out 0).trans rfl, (blk_cell BK282.out 1).trans rfl, (blk_cell BK282.out 2).trans rfl, (blk_cell BK282.out 3).trans rfl, (blk_cell BK282.out 4).trans rfl, HS5_, HS6_, HS7_, HS8_, HS9_⟩ (fun hHeld => ?_)
      clear hK K
      refine norm_ (a' := ?_) ?_ ?_
      rotate_left
      ·
       show Act.put _ (some 51) _ = _
       simp only [Act.put, List.setIfInBounds_toArray, List.set_cons_zero, List.set_cons_succ, i64_w, i32_w]
       rfl
      refine pure_ (i := 9) (N := some 52) (v := ?_) (a' := ?_) (onA 11 10) rfl rfl (any_of HT_.out (by kernel_rfl)) (fun _ _ _ h => h) (Or.inl ⟨by rfl, ?_⟩) ?_ ?_
      rotate_left
      ·
       intro w'
       go_simp
       with_reducible rfl
      rotate_left
      ·
       simp only [Act.put, List.setIfInBounds_toArray, List.set_cons_zero, List.set_cons_succ, i64_w, i32_w]
       rfl
      refine pure_ (i := 10) (N := some 2) (v := ?_) (a' := ?_) (onA 11 11) rfl rfl (any_of HT_.out (by kernel_rfl)) (fun _ _ _ h => h) (Or.inl ⟨by rfl, ?_⟩) ?_ ?_
      rotate_left
      ·
       intro w'
       go_simp
       with_reducible rfl
      rotate_left
      ·
       simp only [Act.put, List.setIfInBounds_toArray, List.set_cons_zero, List.set_cons_succ, i64_w, i32_w]
       rfl
      refine done_ (done_of HT_.out (by kernel_rfl)) ?_
      try go_wp2
      go_ret
      exact ⟨by first | rfl | (simp [errW_none, errW_some] <;> rfl) | (simp [*, errW_none, errW_some] <;> rfl), by repeat (first | (with_reducible first | exact HB.out | apply below_alloc | apply pw_below_drewN | apply below_drew1 | refine below_set ?_ GE282.out) | exact HB.out)⟩
     ·
      rw [if_neg c21] at H
      exact absurd H (by simp)
    ·
     rw [if_neg c20] at H
     have c20b0 : ((t286.length : Int) == 1) = false := beq_eq_false_iff_ne.mpr c20
     have c20b1 : ((t286.length : Int) != 1) = true := bne_iff_ne.mpr c20
     obtain rfl := Option.some.inj H
     have hcz30_0 : wc.cell? ⟨gb282, 0, none⟩ = some (.int .i64 a0_0) := (blk_cell BK282.out 0).trans rfl
     have hcz30_1 : wc.cell? ⟨gb282, 1, none⟩ = some (.int .i64 a0_1) := (blk_cell BK282.out 1).trans rfl
     have hcz30_2 : wc.cell? ⟨gb282, 2, none⟩ = some (.int .i64 a0_2) := (blk_cell BK282.out 2).trans rfl
     have hcz30_3 : wc.cell? ⟨gb282, 3, none⟩ = some (.int .i64 a0_3) := (blk_cell BK282.out 3).trans rfl
     have hcz30_4 : wc.cell? ⟨gb282, 4, none⟩ = some (.slice A0_4 l0_4.length c0_4) := (blk_cell BK282.out 4).trans rfl
     have hfz30_0 := blk_frozen BK282.out 0
     have hfz30_1 := blk_frozen BK282.out 1
     have hfz30_2 := blk_frozen BK282.out 2
     have hfz30_3 := blk_frozen BK282.out 3
     have hfz30_4 := blk_frozen BK282.out 4
     try go_wp2_with (first | ((with_reducible refine gate_callee (f := 41) rfl ?_); refine goesL_ (some 40) rfl rfl Try.func41 (by kernel_rfl) rfl #[.agg #[.int .i64 a0_0, .int .i64 a0_1, .int .i64 a0_2, .int .i64 a0_3, .slice A0_4 l0_4.length c0_4]] rfl (by (try simp only [List.map_toArray, List.map_cons, List.map_nil]); first | done | rfl | (simp only [List.length_drop, List.length_take]; rfl)) ?_; (with_reducible refine (darningref4_opBytes.calls kj1 a0_0 a0_1 a0_2 a0_3 _ _ l0_4 t283 _ ?side1 ?side2 A18.out).mono ?_); (case side1 => repeat (first | exact (Kd.C_below HR0_4.out HB.out) | (with_reducible refine Kd.C_alloc ?_ _) | (with_reducible refine Kd.C_drewN ?_ _) | (with_reducible refine Kd.C_drew ?_))); (case side2 => exact HC0_4.out); rintro e w31 ⟨v284, rfl, ho0, hb⟩; refine ⟨_, rfl, ?_⟩; have n0_ := Aside0.mk (Kd.R_lower ho0 (below_size (by repeat (first | (with_reducible first | exact HB.out | apply below_alloc | apply pw_below_drewN | apply below_drew1 | refine below_set ?_ GE282.out) | exact HB.out)))); have n1_ := Aside0.mk (blk_below (g := gb282) (o := .cells #[.int .i64 a0_0, .int .i64 a0_1, .int .i64 a0_2, .int .i64 a0_3, .slice A0_4 l0_4.length c0_4] 26 (0, 0)) (by (with_reducible repeat (first | refine blk_drewN ?_ _ | refine blk_drew ?_ | refine blk_alloc ?_ _)); exact BK282.out) hb); have n2_ := Aside0.mk (below_step (by repeat (first | (with_reducible first | exact HB.out | apply below_alloc | apply pw_below_drewN | apply below_drew1 | refine below_set ?_ GE282.out) | exact HB.out)) hb); clear BK282; clear HB; have HO285 := n0_; have BK282 := n1_; have HB := n2_; clear n0_ n1_ n2_; (try clear hb); (try clear hb2); (try clear hk); (try clear hi); (try clear ho0); obtain ⟨Ao32, co32, eo32⟩ := Kd.R_slice HO285.out; subst eo32) | ((with_reducible refine gate_callee (f := 20) rfl ?_); refine goesL_ (some 42) rfl rfl Try.func20 (by kernel_rfl) rfl #[.slice Ao32 t283.length co32] rfl (by (try simp only [List.map_toArray, List.map_cons, List.map_nil]); first | done | rfl | (simp only [List.length_drop, List.length_take]; rfl)) ?_; (with_reducible refine (darningref4_DecodeOps.calls kj1 (fun k_ => some k_ = (.slice Ao32 t283.length co32 : Value).ownBlock) _ _ t283 t286 _ ?side1 A19.out).mono ?_); (case side1 => exact Kd.R_V (Kd.R_tight rfl (Kd.R_types (HO285.out) BK282.out (by decide)))); rintro e w33 ⟨v287, rfl, ho0, hb⟩; refine ⟨_, rfl, ?_⟩; have n0_ := Aside0.mk (Kd.R_below (by (with_reducible repeat (first | apply Kd.R_alloc | apply Kd.R_drewN | apply Kd.R_drew)); exact HO285.out) hb); have n1_ := Aside0.mk (Kd.S_lower (Kd.S_newB (Kd.S_new' (Kd.S_mono (ok' := fun k_ => True) ho0 (fun _ hk_ => trivial)) (Kd.R_lt (by (with_reducible repeat (first | apply Kd.R_alloc | apply Kd.R_drewN | apply Kd.R_drew)); exact HO285.out))) (g := gb282) (o := .cells #[.int .i64 a0_0, .int .i64 a0_1, .int .i64 a0_2, .int .i64 a0_3, .slice A0_4 l0_4.length c0_4] 26 (0, 0)) (by (with_reducible repeat (first | refine blk_drewN ?_ _ | refine blk_drew ?_ | refine blk_alloc ?_ _)); exact BK282.out)) (below_size (by repeat (first | (with_reducible first | exact HB.out | apply below_alloc | apply pw_below_drewN | apply below_drew1 | refine below_set ?_ GE282.out) | exact HB.out)))); have n2_ := Aside0.mk (blk_below (g := gb282) (o := .cells #[.int .i64 a0_0, .int .i64 a0_1, .int .i64 a0_2, .int .i64 a0_3, .slice A0_4 l0_4.length c0_4] 26 (0, 0)) (by (with_reducible repeat (first | refine blk_drewN ?_ _ | refine blk_drew ?_ | refine blk_alloc ?_ _)); exact BK282.out) hb); have n3_ := Aside0.mk (below_step (by repeat (first | (with_reducible first | exact HB.out | apply below_alloc | apply pw_below_drewN | apply below_drew1 | refine below_set ?_ GE282.out) | exact HB.out)) hb); clear HO285; clear BK282; clear HB; have HO285 := n0_; have HO288 := n1_; have BK282 := n2_; have HB := n3_; clear n0_ n1_ n2_ n3_; (try clear hb); (try clear hb2); (try clear hk); (try clear hi); (try clear ho0)))
     have n0_ := Aside0.mk (Kd.R_drew HO285.out)
     have n1_ := Aside0.mk (Kd.S_drew HO288.out)
     have n2_ := Aside0.mk (blk_drew BK282.out)
     have n3_ := Aside0.mk (below_drew1 HB.out)
     clear HO285
     clear HO288
     clear BK282
     clear HB
     have HO285 := n0_
     have HO288 := n1_
     have BK282 := n2_
     have HB := n3_
     clear n0_ n1_ n2_ n3_
     obtain ⟨Ao35, co35, eo35⟩ := Kd.S_slice HO288.out
     (first | subst eo35 | (injection eo35 with f1_ f2_ f3_; have f4_ := f1_.symm; have f5_ := f3_.symm; clear f1_ f2_ f3_; subst f4_; subst f5_))
     refine start_ (n := 11) (S := fun w' => True) (ds := []) (onA 11 0) (by kernel_rfl) rfl rfl trivial (fun hHeld => ?_); refine with_tabW darningref4_MayOp.tab5 darningref4_MayOp.bits5 (fun HT_ HW_ => ?_)
     generalize w33.drew = w34 at HO285 HO288 BK282 HB hHeld ⊢
     refine pure_ (i := 0) (N := some 43) (v := ?_) (a' := ?_) (onA 11 1) rfl rfl (any_of HT_.out (by kernel_rfl)) (fun _ _ _ h => h) (Or.inl ⟨by rfl, ?_⟩) ?_ ?_
     rotate_left
     ·
      intro w'
      go_simp
      with_reducible rfl
     rotate_left
     ·
      simp only [Act.put, List.setIfInBounds_toArray, List.set_cons_zero, List.set_cons_succ, i64_w, i32_w]
      rfl
     refine pure_ (i := 1) (N := some 44) (v := ?_) (a' := ?_) (onA 11 2) rfl rfl (any_of HT_.out (by kernel_rfl)) (fun _ _ _ h => h) (Or.inl ⟨by rfl, ?_⟩) ?_ ?_
     rotate_left
     ·
      intro w'
      go_simp
      with_reducible rfl
     rotate_left
     ·
      simp only [Act.put, List.setIfInBounds_toArray, List.set_cons_zero, List.set_cons_succ, i64_w, i32_w]
      rfl
     refine pure_ (i := 2) (N := some 45) (v := ?_) (a' := ?_) (onA 11 3) rfl rfl (any_of HT_.out (by kernel_rfl)) (fun _ _ _ h => h) (Or.inl ⟨by rfl, ?_⟩) ?_ ?_
     rotate_left
     ·
      intro w'
      go_simp
      with_reducible rfl
     rotate_left
     ·
      simp only [Act.put, List.setIfInBounds_toArray, List.set_cons_zero, List.set_cons_succ, i64_w, i32_w]
      rfl
     refine pure_ (i := 3) (N := some 46) (v := ?_) (a' := ?_) (onA 11 4) rfl rfl (any_of HT_.out (by kernel_rfl)) (fun _ _ _ h => h) (Or.inl ⟨by rfl, ?_⟩) ?_ ?_
     rotate_left
     ·
      intro w'
      go_simp
      with_reducible rfl
     rotate_left
     ·
      simp only [Act.put, List.setIfInBounds_toArray, List.set_cons_zero, List.set_cons_succ, i64_w, i32_w]
      rfl
     refine pure_ (i := 4) (N := some 47) (v := undef) (a' := ?_) (onA 11 5) rfl rfl (any_of HT_.out (by kernel_rfl)) (fun _ _ _ h => h) (Or.inr ⟨by rfl, rfl⟩) ?_ ?_
     rotate_left
     ·
      simp only [Act.put, List.setIfInBounds_toArray, List.set_cons_zero, List.set_cons_succ, i64_w, i32_w]
      rfl
     refine pure_ (i := 5) (N := some 48) (v := undef) (a' := ?_) (onA 11 6) rfl rfl (any_of HT_.out (by kernel_rfl)) (fun _ _ _ h => h) (Or.inr ⟨by rfl, rfl⟩) ?_ ?_
     rotate_left
     ·
      simp only [Act.put, List.setIfInBounds_toArray, List.set_cons_zero, List.set_cons_succ, i64_w, i32_w]
      rfl
     refine pure_ (i := 6) (N := some 49) (v := undef) (a' := ?_) (onA 11 7) rfl rfl (any_of HT_.out (by kernel_rfl)) (fun _ _ _ h => h) (Or.inr ⟨by rfl, rfl⟩) ?_ ?_
     rotate_left
     ·
      simp only [Act.put, List.setIfInBounds_toArray, List.set_cons_zero, List.set_cons_succ, i64_w, i32_w]
      rfl
     refine pure_ (i := 7) (N := some 50) (v := undef) (a' := ?_) (onA 11 8) rfl rfl (any_of HT_.out (by kernel_rfl)) (fun _ _ _ h => h) (Or.inr ⟨by rfl, rfl⟩) ?_ ?_
     rotate_left
     ·
      simp only [Act.put, List.setIfInBounds_toArray, List.set_cons_zero, List.set_cons_succ, i64_w, i32_w]
      rfl
     refine pure_ (i := 8) (N := some 51) (v := undef) (a' := ?_) (onA 11 9) rfl rfl (any_of HT_.out (by kernel_rfl)) (fun _ _ _ h => h) (Or.inr ⟨by rfl, rfl⟩) ?_ ?_
     rotate_left
     ·
      simp only [Act.put, List.setIfInBounds_toArray, List.set_cons_zero, List.set_cons_succ, i64_w, i32_w]
      rfl
     refine pure_ (i := 9) (N := some 52) (v := ?_) (a' := ?_) (onA 11 10) rfl rfl (any_of HT_.out (by kernel_rfl)) (fun _ _ _ h => h) (Or.inl ⟨by rfl, ?_⟩) ?_ ?_
     rotate_left
     ·
      intro w'
      go_simp
      with_reducible rfl
     rotate_left
     ·
      simp only [Act.put, List.setIfInBounds_toArray, List.set_cons_zero, List.set_cons_succ, i64_w, i32_w]
      rfl
     refine pure_ (i := 10) (N := some 2) (v := ?_) (a' := ?_) (onA 11 11) rfl rfl (any_of HT_.out (by kernel_rfl)) (fun _ _ _ h => h) (Or.inl ⟨by rfl, ?_⟩) ?_ ?_
     rotate_left
     ·
      intro w'
      go_simp
      with_reducible rfl
     rotate_left
     ·
      simp only [Act.put, List.setIfInBounds_toArray, List.set_cons_zero, List.set_cons_succ, i64_w, i32_w]
      rfl
     refine done_ (done_of HT_.out (by kernel_rfl)) ?_
     try go_wp2
     go_ret
     exact ⟨by first | rfl | (simp [errW_none, errW_some] <;> rfl) | (simp [*, errW_none, errW_some] <;> rfl), by repeat (first | (with_reducible first | exact HB.out | apply below_alloc | apply pw_below_drewN | apply below_drew1 | refine below_set ?_ GE282.out) | exact HB.out)⟩

end Go.Proofs.Ytfgggmojdefidaa.XCodeEach
