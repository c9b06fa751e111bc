-- Laid by this session's own printer (wip/xprint.py): each Go function that the law reaches as a plain Lean function, and that the call comes to it.
import Derived.Test.YtfgggmojdefidaaXCodeEachx0
import Derived.Test.YtfgggmojdefidaaXCodeEachx2
import Derived.Test.YtfgggmojdefidaaXCodeEachx3
import Derived.Test.YtfgggmojdefidaaXCodeEachx4
import Derived.Test.YtfgggmojdefidaaXCodeEachx7
namespace Go.Proofs.Ytfgggmojdefidaa.XCodeEach
open Go.RowKit Go.Proofs.YtfgggmojdefidaaW.PrintWords Go.Proofs.YtfgggmojdefidaaW.PrintLast Go.Proofs.YtfgggmojdefidaaW.PrintMore
attribute [local go_sem] max2_int min2_int max_two min_two max_three min_three max_four min_four   -- for this text's walks alone
set_option linter.unusedVariables false
set_option linter.unusedSimpArgs false

/-! ### darninglaw23_CodeEach: function 6 -/
mutual
def darninglaw23_CodeEach.j0 : Nat → Int → Bool → Int → Int → Int → Int → List Int → Option (Bool)
 | 0, _, _, _, _, _, _, _ => none
 | k + 1, x1, x18, x292000, x292001, x292002, x292003, x292004 => if x18 = true then ((code_May.f k x292000 x292001 x292002 x292003 x292004).bind fun t293 => ((darningref4_MayOp.f k x292000 x292001 x292002 x292003 x292004).bind fun t294 => (if (t293 == t294) = true then ((darninglaw23_awake.f k).bind fun t295 => (some t295)) else (some false)))) else ((code_Encode.f k (([(⟨x292000, x292001, x292002, x292003, x292004⟩ : S26)] : List (S26)))).bind fun bt299 => (if x292000 = 1 then (darninglaw23_CodeEach.j1 k bt299.1 bt299.2 x292000 x292001 x292002 x292003 x292004 x292000 (wrap64 (1 + (wrap64 (Int.tmod (IntKind.u64.wrap (x1)) 100)))) x292002 x292003 x292004) else (if x292000 = 6 then (darninglaw23_CodeEach.j1 k bt299.1 bt299.2 x292000 x292001 x292002 x292003 x292004 x292000 (wrap64 (1 + (wrap64 (Int.tmod (IntKind.u64.wrap (x1)) 100)))) x292002 x292003 x292004) else (if x292000 = 8 then (darninglaw23_CodeEach.j1 k bt299.1 bt299.2 x292000 x292001 x292002 x292003 x292004 x292000 (wrap64 (1 + (wrap64 (Int.tmod (IntKind.u64.wrap (x1)) 100)))) x292002 x292003 x292004) else (if x292000 = 7 then (darninglaw23_CodeEach.j1 k bt299.1 bt299.2 x292000 x292001 x292002 x292003 x292004 x292000 (wrap64 (1 + (wrap64 (Int.tmod (IntKind.u64.wrap (x1)) 100)))) x292002 x292003 x292004) else (darninglaw23_CodeEach.j1 k bt299.1 bt299.2 x292000 x292001 x292002 x292003 x292004 x292000 x292001 x292002 (wrap64 (1 + (wrap64 (Int.tmod (IntKind.u64.wrap (x1)) 100)))) x292004))))))
def darninglaw23_CodeEach.j1 : Nat → List Int → Bool → Int → Int → Int → Int → List Int → Int → Int → Int → Int → List Int → Option (Bool)
 | 0, _, _, _, _, _, _, _, _, _, _, _, _ => none
 | k + 1, x5, x6, x292000, x292001, x292002, x292003, x292004, x304000, x304001, x304002, x304003, x304004 => (code_Encode.f k (([(⟨x304000, x304001, x304002, x304003, x304004⟩ : S26)] : List (S26)))).bind fun bt307 => (if x6 = true then (if (x5.length : Int) = (wrap64 (4 + (x292004.length : Int))) then (if bt307.2 = true then (some false) else ((code_May.f k x304000 x304001 x304002 x304003 x304004).bind fun t311 => (if t311 = true then (some false) else ((darninglaw23_awake.f k).bind fun t312 => (some t312))))) else (some false)) else (some false))
end
def darninglaw23_CodeEach.f (k : Nat) (a0_0 : Int) (a0_1 : Int) (a0_2 : Int) (a0_3 : Int) (l0_4 : List Int) (a1 : Int) : Option (Bool) := if (l0_4.length : Int) > 300 then (darninglaw23_CodeEach.j0 k a1 true a0_0 a0_1 a0_2 a0_3 l0_4) else ((darningref4_MayOp.f k a0_0 a0_1 a0_2 a0_3 l0_4).bind fun t292 => (darninglaw23_CodeEach.j0 k a1 (!t292) a0_0 a0_1 a0_2 a0_3 l0_4))
theorem darninglaw23_CodeEach.mono_l : ∀ k, (∀ y0 y1 y2 y3 y4 y5 y6, LeO (darninglaw23_CodeEach.j0 k y0 y1 y2 y3 y4 y5 y6) (darninglaw23_CodeEach.j0 (k + 1) y0 y1 y2 y3 y4 y5 y6)) ∧ (∀ y0 y1 y2 y3 y4 y5 y6 y7 y8 y9 y10 y11, LeO (darninglaw23_CodeEach.j1 k y0 y1 y2 y3 y4 y5 y6 y7 y8 y9 y10 y11) (darninglaw23_CodeEach.j1 (k + 1) y0 y1 y2 y3 y4 y5 y6 y7 y8 y9 y10 y11))
 | 0 => ⟨fun _ _ _ _ _ _ _ r h => by simp [darninglaw23_CodeEach.j0] at h, fun _ _ _ _ _ _ _ _ _ _ _ _ r h => by simp [darninglaw23_CodeEach.j1] at h⟩
 | k + 1 => by
  obtain ⟨ih0, ih1⟩ := darninglaw23_CodeEach.mono_l k
  refine ⟨?_, ?_⟩
  ·
   intro y0 y1 y2 y3 y4 y5 y6
   unfold darninglaw23_CodeEach.j0
   repeat' first
   | (with_reducible exact ih0 _ _ _ _ _ _ _)
   | (with_reducible exact ih1 _ _ _ _ _ _ _ _ _ _ _ _)
   | (with_reducible exact code_Encode.mono _ _)
   | (with_reducible exact code_May.mono _ _ _ _ _ _)
   | (with_reducible exact darninglaw23_awake.mono _)
   | (with_reducible exact darningref4_MayOp.mono _ _ _ _ _ _)
   | (with_reducible exact LeO.refl _)
   | (with_reducible exact LeO.none _)
   | (with_reducible refine LeO.ite ?_ ?_)
   | (with_reducible refine LeO.bind ?_ (fun _ => ?_))
   | exact ih0 _ _ _ _ _ _ _
   | exact ih1 _ _ _ _ _ _ _ _ _ _ _ _
   | exact code_Encode.mono _ _
   | exact code_May.mono _ _ _ _ _ _
   | exact darninglaw23_awake.mono _
   | exact darningref4_MayOp.mono _ _ _ _ _ _
   | exact LeO.none _
   | refine LeO.ite ?_ ?_
   | refine LeO.bind ?_ (fun _ => ?_)
  ·
   intro y0 y1 y2 y3 y4 y5 y6 y7 y8 y9 y10 y11
   unfold darninglaw23_CodeEach.j1
   repeat' first
   | (with_reducible exact ih0 _ _ _ _ _ _ _)
   | (with_reducible exact ih1 _ _ _ _ _ _ _ _ _ _ _ _)
   | (with_reducible exact code_Encode.mono _ _)
   | (with_reducible exact code_May.mono _ _ _ _ _ _)
   | (with_reducible exact darninglaw23_awake.mono _)
   | (with_reducible exact darningref4_MayOp.mono _ _ _ _ _ _)
   | (with_reducible exact LeO.refl _)
   | (with_reducible exact LeO.none _)
   | (with_reducible refine LeO.ite ?_ ?_)
   | (with_reducible refine LeO.bind ?_ (fun _ => ?_))
   | exact ih0 _ _ _ _ _ _ _
   | exact ih1 _ _ _ _ _ _ _ _ _ _ _ _
   | exact code_Encode.mono _ _
   | exact code_May.mono _ _ _ _ _ _
   | exact darninglaw23_awake.mono _
   | exact darningref4_MayOp.mono _ _ _ _ _ _
   | exact LeO.none _
   | refine LeO.ite ?_ ?_
   | refine LeO.bind ?_ (fun _ => ?_)
theorem darninglaw23_CodeEach.mono : ∀ a0 a1 a2 a3 a4 a5 k, LeO (darninglaw23_CodeEach.f k a0 a1 a2 a3 a4 a5) (darninglaw23_CodeEach.f (k + 1) a0 a1 a2 a3 a4 a5) := by
 intro a0 a1 a2 a3 a4 a5 k
 obtain ⟨ih0, ih1⟩ := darninglaw23_CodeEach.mono_l k
 unfold darninglaw23_CodeEach.f
 repeat' first
   | (with_reducible exact ih0 _ _ _ _ _ _ _)
   | (with_reducible exact ih1 _ _ _ _ _ _ _ _ _ _ _ _)
   | (with_reducible exact code_Encode.mono _ _)
   | (with_reducible exact code_May.mono _ _ _ _ _ _)
   | (with_reducible exact darninglaw23_awake.mono _)
   | (with_reducible exact darningref4_MayOp.mono _ _ _ _ _ _)
   | (with_reducible exact LeO.refl _)
   | (with_reducible exact LeO.none _)
   | (with_reducible refine LeO.ite ?_ ?_)
   | (with_reducible refine LeO.bind ?_ (fun _ => ?_))
   | exact ih0 _ _ _ _ _ _ _
   | exact ih1 _ _ _ _ _ _ _ _ _ _ _ _
   | exact code_Encode.mono _ _
   | exact code_May.mono _ _ _ _ _ _
   | exact darninglaw23_awake.mono _
   | exact darningref4_MayOp.mono _ _ _ _ _ _
   | exact LeO.none _
   | refine LeO.ite ?_ ?_
   | refine LeO.bind ?_ (fun _ => ?_)
def darninglaw23_CodeEach.T2 : Bool × List (List Nat × List Nat) := (true, [([], []), ([0], [0]), ([], []), ([2, 1], [2]), ([1, 3], [1, 3]), ([4, 3], [4]), ([5, 5], [5]), ([5, 6], [5, 6]), ([7, 6, 0, 1, 2, 3, 4, 5, 6, 7], [7])])
def darninglaw23_CodeEach.B2 : List Nat := [0, 1, 0, 7, 15, 31, 63, 127, 255]
theorem darninglaw23_CodeEach.tab2 : rtab .any (opsOf Try.f6 2) = darninglaw23_CodeEach.T2 := by kernel_rfl
theorem darninglaw23_CodeEach.bits2 : waitsOk darninglaw23_CodeEach.T2.2 darninglaw23_CodeEach.B2 = true := by kernel_rfl
set_option maxHeartbeats 8000000 in
set_option maxRecDepth 100000 in
theorem darninglaw23_CodeEach.calls (k : Nat) (a0_0 : Int) (a0_1 : Int) (a0_2 : Int) (a0_3 : Int) (P0_4_ : Nat → Prop) (A0_4 : Option Addr) (c0_4 : Nat) (l0_4 : List Int) (a1 : Int) (r : Bool) (w : World) (hs0_4 : Kd.V (Kd.int .u8) 5 w w.heap.size (fun k_ => P0_4_ k_) (.slice A0_4 l0_4.length c0_4) l0_4) (h : darninglaw23_CodeEach.f k a0_0 a0_1 a0_2 a0_3 l0_4 a1 = some r) :
  Calls Try.prog 6 #[.agg #[.int .i64 a0_0, .int .i64 a0_1, .int .i64 a0_2, .int .i64 a0_3, .slice A0_4 l0_4.length c0_4], .int .i64 a1] w fun e w' => e = .returned (.bool r) ∧ Below w.heap.size w w' := by
 have hu26 := Try.underlying26
 have HO0_4 := Aside0.mk (show Kd.V (Kd.int .u8) 5 w w.heap.size (fun k_ => (P0_4_ k_ ∨ w.heap.size ≤ k_)) (.slice A0_4 l0_4.length c0_4) l0_4 from Kd.V_mono hs0_4 (fun k_ hk => .inl hk))
 have HB := Aside0.mk (Below.refl w.heap.size w)
 have H : (if (l0_4.length : Int) > 300 then (darninglaw23_CodeEach.j0 k a1 true a0_0 a0_1 a0_2 a0_3 l0_4) else ((darningref4_MayOp.f k a0_0 a0_1 a0_2 a0_3 l0_4).bind fun t292 => (darninglaw23_CodeEach.j0 k a1 (!t292) a0_0 a0_1 a0_2 a0_3 l0_4))) = some r := h
 clear h
 have HC3 := Aside0.mk H
 clear H
 go_enter Try.func6, Try.ntmps6
 go_upto_region 1 with (first | ((with_reducible refine gate_dst (N := 2) rfl ?_); (try (refine gate_guard (by rfl) ?_; dsimp only)); refine box_event ?hg (N := 2) ?hd (cs := #[.int .i64 a0_0, .int .i64 a0_1, .int .i64 a0_2, .int .i64 a0_3, .slice A0_4 l0_4.length c0_4]) (t := 26) ?hr ?_; (case hd => rfl); (case hg => rfl); (case hr => first | (go_simp; done) | (go_simp; rfl)); intro gb291 hg w4 hbox hb; have n0_ := Aside0.mk (Kd.V_below (Kd.V_elderB (by (with_reducible repeat (first | apply Kd.V_alloc | apply Kd.V_drewN | apply Kd.V_drew)); exact HO0_4.out) gb291 (Nat.le_of_eq hg.symm)) hb); have n1_ := Aside0.mk (below_step (by repeat (first | (with_reducible first | exact HB.out | apply below_alloc | apply pw_below_drewN | apply below_drew1) | exact HB.out)) hb); have n2_ := Aside0.mk (hbox); have n3_ := Aside0.mk ((by rw [hg]; exact (below_size (by repeat (first | (with_reducible first | exact HB.out | apply below_alloc | apply pw_below_drewN | apply below_drew1) | exact HB.out))) : w.heap.size ≤ gb291)); have n4_ := Aside0.mk ((by rw [hg]; exact (below_size (by repeat (first | (with_reducible first | exact HB.out | apply below_alloc | apply pw_below_drewN | apply below_drew1) | exact HB.out))) : w.heap.size ≤ gb291)); clear HO0_4; clear HB; have HO0_4 := n0_; have HB := n1_; have BK291 := n2_; have GW291 := n3_; have GE291 := n4_; clear n0_ n1_ n2_ n3_ n4_; clear hb hbox hg))
 (try simp only [Act.put, List.setIfInBounds_toArray, List.set_cons_zero, List.set_cons_succ])
 go_cut [18] (fun v18 wc => ∃ (kq : Nat) (x18_2 : Bool), v18 = .bool x18_2 ∧ Aside0 (darninglaw23_CodeEach.j0 kq a1 x18_2 a0_0 a0_1 a0_2 a0_3 l0_4 = some r) ∧ Aside0 (kq ≤ k) ∧ Aside0 (Kd.V (Kd.int .u8) 5 wc w.heap.size (fun k_ => (P0_4_ k_ ∨ w.heap.size ≤ k_) ∧ k_ ≠ gb291) (.slice A0_4 l0_4.length c0_4) l0_4) ∧ Aside0 (wc.heap[gb291]? = some (.cells #[.int .i64 a0_0, .int .i64 a0_1, .int .i64 a0_2, .int .i64 a0_3, (.slice A0_4 l0_4.length c0_4)] 26 (0, 0))) ∧ Aside0 (Below w.heap.size w wc))
 case first =>
  have H := HC3.out
  clear HC3
  by_cases c5 : (l0_4.length : Int) > 300
  ·
   rw [if_pos c5] at H
   have c5b0 : decide (300 < (l0_4.length : Int)) = true := decide_eq_true c5
   have c5b1 : decide (300 < l0_4.length) = true := decide_eq_true (by omega)
   clear c5
   (first | rw [c5b0] | (simp only [i64_w, i32_w]; rw [c5b0]) | skip)
   have H' := Aside0.mk H
   clear H
   have hcz6_0 : w4.cell? ⟨gb291, 0, none⟩ = some (.int .i64 a0_0) := (blk_cell BK291.out 0).trans rfl
   have hcz6_1 : w4.cell? ⟨gb291, 1, none⟩ = some (.int .i64 a0_1) := (blk_cell BK291.out 1).trans rfl
   have hcz6_2 : w4.cell? ⟨gb291, 2, none⟩ = some (.int .i64 a0_2) := (blk_cell BK291.out 2).trans rfl
   have hcz6_3 : w4.cell? ⟨gb291, 3, none⟩ = some (.int .i64 a0_3) := (blk_cell BK291.out 3).trans rfl
   have hcz6_4 : w4.cell? ⟨gb291, 4, none⟩ = some (.slice A0_4 l0_4.length c0_4) := (blk_cell BK291.out 4).trans rfl
   have hfz6_0 := blk_frozen BK291.out 0
   have hfz6_1 := blk_frozen BK291.out 1
   have hfz6_2 := blk_frozen BK291.out 2
   have hfz6_3 := blk_frozen BK291.out 3
   have hfz6_4 := blk_frozen BK291.out 4
   go_wp2
   go_meet
   case rel => exact ⟨_, (true), (by first | rfl | (simp; done) | (simp [*]; done)), H', ⟨by first | omega | exact Nat.le_refl _⟩, ⟨by (with_reducible repeat (first | apply Kd.V_alloc | apply Kd.V_drewN | apply Kd.V_drew)); exact HO0_4.out⟩, ⟨by (with_reducible repeat (first | refine blk_drewN ?_ _ | refine blk_drew ?_ | refine blk_alloc ?_ _)); exact BK291.out⟩, ⟨by repeat (first | (with_reducible first | exact HB.out | apply below_alloc | apply pw_below_drewN | apply below_drew1 | refine below_set ?_ GE291.out) | exact HB.out)⟩⟩
  ·
   rw [if_neg c5] at H
   have c5b0 : decide (300 < (l0_4.length : Int)) = false := decide_eq_false c5
   have c5b1 : decide (300 < l0_4.length) = false := decide_eq_false (by omega)
   clear c5
   (first | rw [c5b0] | (simp only [i64_w, i32_w]; rw [c5b0]) | skip)
   replace H := Option.bind_eq_some_iff.mp H
   obtain ⟨t292, A70, H⟩ := H
   replace H : (darninglaw23_CodeEach.j0 k a1 (!t292) a0_0 a0_1 a0_2 a0_3 l0_4) = some r := H
   have A7 := Aside0.mk A70
   clear A70
   have H' := Aside0.mk H
   clear H
   have hcz8_0 : w4.cell? ⟨gb291, 0, none⟩ = some (.int .i64 a0_0) := (blk_cell BK291.out 0).trans rfl
   have hcz8_1 : w4.cell? ⟨gb291, 1, none⟩ = some (.int .i64 a0_1) := (blk_cell BK291.out 1).trans rfl
   have hcz8_2 : w4.cell? ⟨gb291, 2, none⟩ = some (.int .i64 a0_2) := (blk_cell BK291.out 2).trans rfl
   have hcz8_3 : w4.cell? ⟨gb291, 3, none⟩ = some (.int .i64 a0_3) := (blk_cell BK291.out 3).trans rfl
   have hcz8_4 : w4.cell? ⟨gb291, 4, none⟩ = some (.slice A0_4 l0_4.length c0_4) := (blk_cell BK291.out 4).trans rfl
   have hfz8_0 := blk_frozen BK291.out 0
   have hfz8_1 := blk_frozen BK291.out 1
   have hfz8_2 := blk_frozen BK291.out 2
   have hfz8_3 := blk_frozen BK291.out 3
   have hfz8_4 := blk_frozen BK291.out 4
   go_wp2_with (first | (go_at_call 15; (with_reducible refine (darningref4_MayOp.calls k a0_0 a0_1 a0_2 a0_3 _ _ l0_4 t292 _ ?side1 ?side2 A7.out).mono ?_); (case side1 => repeat (first | exact (Kd.V_reads' HO0_4.out).2.2 | (with_reducible refine Kd.C_alloc ?_ _) | (with_reducible refine Kd.C_drewN ?_ _) | (with_reducible refine Kd.C_drew ?_))); (case side2 => exact (Kd.V_reads' HO0_4.out).2.1); rintro e w9 ⟨rfl, hb⟩; have n0_ := Aside0.mk (Kd.V_below (by (with_reducible repeat (first | apply Kd.V_alloc | apply Kd.V_drewN | apply Kd.V_drew)); exact HO0_4.out) hb); have n1_ := Aside0.mk (blk_below (g := gb291) (o := .cells #[.int .i64 a0_0, .int .i64 a0_1, .int .i64 a0_2, .int .i64 a0_3, .slice A0_4 l0_4.length c0_4] 26 (0, 0)) (by (with_reducible repeat (first | refine blk_drewN ?_ _ | refine blk_drew ?_ | refine blk_alloc ?_ _)); exact BK291.out) hb); have n2_ := Aside0.mk (below_step (by repeat (first | (with_reducible first | exact HB.out | apply below_alloc | apply pw_below_drewN | apply below_drew1 | refine below_set ?_ GE291.out) | exact HB.out)) hb); clear HO0_4; clear BK291; clear HB; have HO0_4 := n0_; have BK291 := n1_; have HB := n2_; clear n0_ n1_ n2_; (try clear hb); (try clear hb2); (try clear hk); (try clear hi)))
   go_meet
   case rel => exact ⟨_, (!t292), (by first | rfl | (simp; done) | (simp [*]; done)), H', ⟨by first | omega | exact Nat.le_refl _⟩, ⟨by (with_reducible repeat (first | apply Kd.V_alloc | apply Kd.V_drewN | apply Kd.V_drew)); exact HO0_4.out⟩, ⟨by (with_reducible repeat (first | refine blk_drewN ?_ _ | refine blk_drew ?_ | refine blk_alloc ?_ _)); exact BK291.out⟩, ⟨by repeat (first | (with_reducible first | exact HB.out | apply below_alloc | apply pw_below_drewN | apply below_drew1 | refine below_set ?_ GE291.out) | exact HB.out)⟩⟩
 case rest =>
  clear HC3
  try clear p2
  try clear c5
  try clear c5b0
  try clear c5b1
  try clear c6
  try clear hcz6_0
  try clear hcz6_1
  try clear hcz6_2
  try clear hcz6_3
  try clear hcz6_4
  try clear hcz8_0
  try clear hcz8_1
  try clear hcz8_2
  try clear hcz8_3
  try clear hcz8_4
  try clear hfz6_0
  try clear hfz6_1
  try clear hfz6_2
  try clear hfz6_3
  try clear hfz6_4
  try clear hfz8_0
  try clear hfz8_1
  try clear hfz8_2
  try clear hfz8_3
  try clear hfz8_4
  obtain ⟨kq, x18_2, rfl, HA, HJ2, HO_292004, BK291, HB⟩ := hcut
  cases kq with
  | zero => exact absurd HA.out (by simp [darninglaw23_CodeEach.j0])
  | succ kj2 =>
   have H := HA.out
   clear HA
   simp only [darninglaw23_CodeEach.j0] at H
   by_cases c10 : x18_2 = true
   ·
    subst c10
    have H1 : ((code_May.f kj2 a0_0 a0_1 a0_2 a0_3 l0_4).bind fun t293 => ((darningref4_MayOp.f kj2 a0_0 a0_1 a0_2 a0_3 l0_4).bind fun t294 => (if (t293 == t294) = true then ((darninglaw23_awake.f kj2).bind fun t295 => (some t295)) else (some false)))) = some r := by rw [if_pos rfl] at H; exact H
    clear H
    have H := H1
    clear H1
    replace H := Option.bind_eq_some_iff.mp H
    obtain ⟨t293, A110, H⟩ := H
    replace H : ((darningref4_MayOp.f kj2 a0_0 a0_1 a0_2 a0_3 l0_4).bind fun t294 => (if (t293 == t294) = true then ((darninglaw23_awake.f kj2).bind fun t295 => (some t295)) else (some false))) = some r := H
    have A11 := Aside0.mk A110
    clear A110
    replace H := Option.bind_eq_some_iff.mp H
    obtain ⟨t294, A120, H⟩ := H
    replace H : (if (t293 == t294) = true then ((darninglaw23_awake.f kj2).bind fun t295 => (some t295)) else (some false)) = some r := H
    have A12 := Aside0.mk A120
    clear A120
    by_cases c13 : (t293 == t294) = true
    ·
     rw [if_pos c13] at H
     have c13b0 : (t293 == t294) = true := c13
     (try (have c13b1 : decide (t293 = t294) = true := by simpa using c13))
     (try (have c13b2 : (t293 == t294) = true := by simpa using c13))
     clear c13
     replace H := Option.bind_eq_some_iff.mp H
     obtain ⟨t295, A140, H⟩ := H
     replace H : (some t295) = some r := H
     have A14 := Aside0.mk A140
     clear A140
     obtain rfl := Option.some.inj H
     try go_wp2
     have n0_ := Aside0.mk (Kd.V_drew HO_292004.out)
     have n1_ := Aside0.mk (blk_drew BK291.out)
     have n2_ := Aside0.mk (below_drew1 HB.out)
     clear HO_292004
     clear BK291
     clear HB
     have HO_292004 := n0_
     have BK291 := n1_
     have HB := n2_
     clear n0_ n1_ n2_
     refine start_ (n := 9) (S := fun w' => w'.cell? ⟨gb291, 0, none⟩ = some (.int .i64 a0_0) ∧ w'.cell? ⟨gb291, 1, none⟩ = some (.int .i64 a0_1) ∧ w'.cell? ⟨gb291, 2, none⟩ = some (.int .i64 a0_2) ∧ w'.cell? ⟨gb291, 3, none⟩ = some (.int .i64 a0_3) ∧ w'.cell? ⟨gb291, 4, none⟩ = some (.slice A0_4 l0_4.length c0_4)) (ds := []) (onA 9 0) (by kernel_rfl) rfl rfl ⟨(blk_cell BK291.out 0).trans rfl, (blk_cell BK291.out 1).trans rfl, (blk_cell BK291.out 2).trans rfl, (blk_cell BK291.out 3).trans rfl, (blk_cell BK291.out 4).trans rfl⟩ (fun hHeld => ?_); refine with_tabW darninglaw23_CodeEach.tab2 darninglaw23_CodeEach.bits2 (fun HT_ HW_ => ?_)
     generalize wc.drew = w15 at HO_292004 BK291 HB hHeld ⊢
     refine take_ (i := 0) (N := some 19) (v := ?_) (a' := ?_) (onA 9 1) rfl rfl (take_ofW HT_.out HW_.out (by kernel_rfl)) (fun _ _ _ h => h) (Or.inl ⟨by rfl, ?_⟩) hHeld ?_ ?_
     rotate_left
     ·
      rintro w' ⟨s0, s1, s2, s3, s4⟩
      go_simp
      with_reducible rfl
     rotate_left
     ·
      simp only [Act.put, List.setIfInBounds_toArray, List.set_cons_zero, List.set_cons_succ, i64_w, i32_w]
      rfl
     refine take_ (i := 2) (N := some 21) (v := ?_) (a' := ?_) #[tt_, ff_, tt_, ff_, ff_, ff_, ff_, ff_, ff_] rfl rfl (take_ofW HT_.out HW_.out (by kernel_rfl)) (fun _ _ _ h => h) (Or.inl ⟨by rfl, ?_⟩) hHeld ?_ ?_
     rotate_left
     ·
      rintro w' ⟨s0, s1, s2, s3, s4⟩
      go_simp
      with_reducible rfl
     rotate_left
     ·
      simp only [Act.put, List.setIfInBounds_toArray, List.set_cons_zero, List.set_cons_succ, i64_w, i32_w]
      rfl
     refine one_ (i := 1) (N := some 20) (onA 9 3) rfl rfl (one_of HT_.out (by kernel_rfl)) (by decide) (fun K hK => ?_)
     refine goes_ Try.func14 (by kernel_rfl) rfl #[.agg #[.int .i64 a0_0, .int .i64 a0_1, .int .i64 a0_2, .int .i64 a0_3, .slice A0_4 l0_4.length c0_4]] (by rfl) rfl rfl (by (try simp only [List.map_toArray, List.map_cons, List.map_nil]); first | done | rfl | (simp only [List.length_drop, List.length_take]; rfl)) ?_
     with_reducible refine (code_May.calls kj2 a0_0 a0_1 a0_2 a0_3 _ _ l0_4 t293 _ ?side1 ?side2 A11.out).mono ?_
     (case side1 => repeat (first | exact (Kd.V_reads' HO_292004.out).2.2 | (with_reducible refine Kd.C_alloc ?_ _) | (with_reducible refine Kd.C_drewN ?_ _) | (with_reducible refine Kd.C_drew ?_)))
     (case side2 => exact (Kd.V_reads' HO_292004.out).2.1)
     rintro e w16 ⟨rfl, hb⟩
     refine ⟨_, rfl, ?_⟩
     have n0_ := Aside0.mk (Kd.V_below (by (with_reducible repeat (first | apply Kd.V_alloc | apply Kd.V_drewN | apply Kd.V_drew)); exact HO_292004.out) hb)
     have n1_ := Aside0.mk (blk_below (g := gb291) (o := .cells #[.int .i64 a0_0, .int .i64 a0_1, .int .i64 a0_2, .int .i64 a0_3, .slice A0_4 l0_4.length c0_4] 26 (0, 0)) (by (with_reducible repeat (first | refine blk_drewN ?_ _ | refine blk_drew ?_ | refine blk_alloc ?_ _)); exact BK291.out) hb)
     have n2_ := Aside0.mk (below_step (by repeat (first | (with_reducible first | exact HB.out | apply below_alloc | apply pw_below_drewN | apply below_drew1 | refine below_set ?_ GE291.out) | exact HB.out)) hb)
     clear HO_292004
     clear BK291
     clear HB
     have HO_292004 := n0_
     have BK291 := n1_
     have HB := n2_
     clear n0_ n1_ n2_
     (try clear hb)
     (try clear hb2)
     (try clear hk)
     (try clear hi)
     refine hK.out _ _ ⟨(blk_cell BK291.out 0).trans rfl, (blk_cell BK291.out 1).trans rfl, (blk_cell BK291.out 2).trans rfl, (blk_cell BK291.out 3).trans rfl, (blk_cell BK291.out 4).trans rfl⟩ (fun hHeld => ?_)
     clear hK K
     refine norm_ (a' := ?_) ?_ ?_
     rotate_left
     ·
      show Act.put _ (some 20) _ = _
      simp only [Act.put, List.setIfInBounds_toArray, List.set_cons_zero, List.set_cons_succ, i64_w, i32_w]
      rfl
     refine one_ (i := 3) (N := some 22) (onA 9 4) rfl rfl (one_of HT_.out (by kernel_rfl)) (by decide) (fun K hK => ?_)
     refine goes_ Try.func15 (by kernel_rfl) rfl #[.agg #[.int .i64 a0_0, .int .i64 a0_1, .int .i64 a0_2, .int .i64 a0_3, .slice A0_4 l0_4.length c0_4]] (by rfl) rfl rfl (by (try simp only [List.map_toArray, List.map_cons, List.map_nil]); first | done | rfl | (simp only [List.length_drop, List.length_take]; rfl)) ?_
     with_reducible refine (darningref4_MayOp.calls kj2 a0_0 a0_1 a0_2 a0_3 _ _ l0_4 t294 _ ?side1 ?side2 A12.out).mono ?_
     (case side1 => repeat (first | exact (Kd.V_reads' HO_292004.out).2.2 | (with_reducible refine Kd.C_alloc ?_ _) | (with_reducible refine Kd.C_drewN ?_ _) | (with_reducible refine Kd.C_drew ?_)))
     (case side2 => exact (Kd.V_reads' HO_292004.out).2.1)
     rintro e w17 ⟨rfl, hb⟩
     refine ⟨_, rfl, ?_⟩
     have n0_ := Aside0.mk (Kd.V_below (by (with_reducible repeat (first | apply Kd.V_alloc | apply Kd.V_drewN | apply Kd.V_drew)); exact HO_292004.out) hb)
     have n1_ := Aside0.mk (blk_below (g := gb291) (o := .cells #[.int .i64 a0_0, .int .i64 a0_1, .int .i64 a0_2, .int .i64 a0_3, .slice A0_4 l0_4.length c0_4] 26 (0, 0)) (by (with_reducible repeat (first | refine blk_drewN ?_ _ | refine blk_drew ?_ | refine blk_alloc ?_ _)); exact BK291.out) hb)
     have n2_ := Aside0.mk (below_step (by repeat (first | (with_reducible first | exact HB.out | apply below_alloc | apply pw_below_drewN | apply below_drew1 | refine below_set ?_ GE291.out) | exact HB.out)) hb)
     clear HO_292004
     clear BK291
     clear HB
     have HO_292004 := n0_
     have BK291 := n1_
     have HB := n2_
     clear n0_ n1_ n2_
     (try clear hb)
     (try clear hb2)
     (try clear hk)
     (try clear hi)
     refine hK.out _ _ ⟨(blk_cell BK291.out 0).trans rfl, (blk_cell BK291.out 1).trans rfl, (blk_cell BK291.out 2).trans rfl, (blk_cell BK291.out 3).trans rfl, (blk_cell BK291.out 4).trans rfl⟩ (fun hHeld => ?_)
     clear hK K
     refine norm_ (a' := ?_) ?_ ?_
     rotate_left
     ·
      show Act.put _ (some 22) _ = _
      simp only [Act.put, List.setIfInBounds_toArray, List.set_cons_zero, List.set_cons_succ, i64_w, i32_w]
      rfl
     refine pure_ (i := 4) (N := some 23) (v := ?_) (a' := ?_) (onA 9 5) rfl rfl (any_of HT_.out (by kernel_rfl)) (fun _ _ _ h => h) (Or.inl ⟨by rfl, ?_⟩) ?_ ?_
     rotate_left
     ·
      intro w'
      go_simp
      with_reducible rfl
     rotate_left
     ·
      simp only [Act.put, List.setIfInBounds_toArray, List.set_cons_zero, List.set_cons_succ, i64_w, i32_w]
      rfl
     refine pure_ (i := 5) (N := some 24) (v := ?_) (a' := ?_) (onA 9 6) rfl rfl (any_of HT_.out (by kernel_rfl)) (fun _ _ _ h => h) (Or.inl ⟨by rfl, ?_⟩) ?_ ?_
     rotate_left
     ·
      intro w'
      go_simp
      with_reducible rfl
     rotate_left
     ·
      simp only [Act.put, List.setIfInBounds_toArray, List.set_cons_zero, List.set_cons_succ, i64_w, i32_w]
      rfl
     refine one_ (i := 6) (N := some 25) (onA 9 7) rfl rfl (one_of HT_.out (by kernel_rfl)) (by decide) (fun K hK => ?_)
     refine goes_ Try.func13 (by kernel_rfl) rfl #[] (by rfl) rfl rfl (by (try simp only [List.map_toArray, List.map_cons, List.map_nil]); first | done | rfl | (simp only [List.length_drop, List.length_take]; rfl)) ?_
     with_reducible refine (darninglaw23_awake.calls kj2  t295 _ A14.out).mono ?_
     rintro e w18 ⟨rfl, hb⟩
     refine ⟨_, rfl, ?_⟩
     have n0_ := Aside0.mk (Kd.V_below (by (with_reducible repeat (first | apply Kd.V_alloc | apply Kd.V_drewN | apply Kd.V_drew)); exact HO_292004.out) hb)
     have n1_ := Aside0.mk (blk_below (g := gb291) (o := .cells #[.int .i64 a0_0, .int .i64 a0_1, .int .i64 a0_2, .int .i64 a0_3, .slice A0_4 l0_4.length c0_4] 26 (0, 0)) (by (with_reducible repeat (first | refine blk_drewN ?_ _ | refine blk_drew ?_ | refine blk_alloc ?_ _)); exact BK291.out) hb)
     have n2_ := Aside0.mk (below_step (by repeat (first | (with_reducible first | exact HB.out | apply below_alloc | apply pw_below_drewN | apply below_drew1 | refine below_set ?_ GE291.out) | exact HB.out)) hb)
     clear HO_292004
     clear BK291
     clear HB
     have HO_292004 := n0_
     have BK291 := n1_
     have HB := n2_
     clear n0_ n1_ n2_
     (try clear hb)
     (try clear hb2)
     (try clear hk)
     (try clear hi)
     refine hK.out _ _ ⟨(blk_cell BK291.out 0).trans rfl, (blk_cell BK291.out 1).trans rfl, (blk_cell BK291.out 2).trans rfl, (blk_cell BK291.out 3).trans rfl, (blk_cell BK291.out 4).trans rfl⟩ (fun hHeld => ?_)
     clear hK K
     refine norm_ (a' := ?_) ?_ ?_
     rotate_left
     ·
      show Act.put _ (some 25) _ = _
      simp only [Act.put, List.setIfInBounds_toArray, List.set_cons_zero, List.set_cons_succ, i64_w, i32_w]
      rfl
     refine pure_ (i := 7) (N := some 26) (v := ?_) (a' := ?_) (onA 9 8) rfl rfl (any_of HT_.out (by kernel_rfl)) (fun _ _ _ h => h) (Or.inl ⟨by rfl, ?_⟩) ?_ ?_
     rotate_left
     ·
      intro w'
      go_simp
      with_reducible rfl
     rotate_left
     ·
      simp only [Act.put, List.setIfInBounds_toArray, List.set_cons_zero, List.set_cons_succ, i64_w, i32_w]
      rfl
     refine pure_ (i := 8) (N := some 4) (v := ?_) (a' := ?_) (onA 9 9) rfl rfl (any_of HT_.out (by kernel_rfl)) (fun _ _ _ h => h) (Or.inl ⟨by rfl, ?_⟩) ?_ ?_
     rotate_left
     ·
      intro w'
      go_simp
      with_reducible rfl
     rotate_left
     ·
      simp only [Act.put, List.setIfInBounds_toArray, List.set_cons_zero, List.set_cons_succ, i64_w, i32_w]
      rfl
     refine done_ (done_of HT_.out (by kernel_rfl)) ?_
     try go_wp2
     go_ret
     exact ⟨by first | rfl | (simp [errW_none, errW_some] <;> rfl) | (simp [*, errW_none, errW_some] <;> rfl), by repeat (first | (with_reducible first | exact HB.out | apply below_alloc | apply pw_below_drewN | apply below_drew1 | refine below_set ?_ GE291.out) | exact HB.out)⟩
    ·
     rw [if_neg c13] at H
     have c13b0 : (t293 == t294) = false := by simpa using c13
     (try (have c13b1 : decide (t293 = t294) = false := by simpa using c13))
     (try (have c13b2 : (t293 == t294) = false := by simpa using c13))
     (try (have c13b3 : ¬ (t293 = t294) := by simpa using c13))
     clear c13
     obtain rfl := Option.some.inj H
     try go_wp2
     have n0_ := Aside0.mk (Kd.V_drew HO_292004.out)
     have n1_ := Aside0.mk (blk_drew BK291.out)
     have n2_ := Aside0.mk (below_drew1 HB.out)
     clear HO_292004
     clear BK291
     clear HB
     have HO_292004 := n0_
     have BK291 := n1_
     have HB := n2_
     clear n0_ n1_ n2_
     refine start_ (n := 9) (S := fun w' => w'.cell? ⟨gb291, 0, none⟩ = some (.int .i64 a0_0) ∧ w'.cell? ⟨gb291, 1, none⟩ = some (.int .i64 a0_1) ∧ w'.cell? ⟨gb291, 2, none⟩ = some (.int .i64 a0_2) ∧ w'.cell? ⟨gb291, 3, none⟩ = some (.int .i64 a0_3) ∧ w'.cell? ⟨gb291, 4, none⟩ = some (.slice A0_4 l0_4.length c0_4)) (ds := []) (onA 9 0) (by kernel_rfl) rfl rfl ⟨(blk_cell BK291.out 0).trans rfl, (blk_cell BK291.out 1).trans rfl, (blk_cell BK291.out 2).trans rfl, (blk_cell BK291.out 3).trans rfl, (blk_cell BK291.out 4).trans rfl⟩ (fun hHeld => ?_); refine with_tabW darninglaw23_CodeEach.tab2 darninglaw23_CodeEach.bits2 (fun HT_ HW_ => ?_)
     generalize wc.drew = w19 at HO_292004 BK291 HB hHeld ⊢
     refine take_ (i := 0) (N := some 19) (v := ?_) (a' := ?_) (onA 9 1) rfl rfl (take_ofW HT_.out HW_.out (by kernel_rfl)) (fun _ _ _ h => h) (Or.inl ⟨by rfl, ?_⟩) hHeld ?_ ?_
     rotate_left
     ·
      rintro w' ⟨s0, s1, s2, s3, s4⟩
      go_simp
      with_reducible rfl
     rotate_left
     ·
      simp only [Act.put, List.setIfInBounds_toArray, List.set_cons_zero, List.set_cons_succ, i64_w, i32_w]
      rfl
     refine take_ (i := 2) (N := some 21) (v := ?_) (a' := ?_) #[tt_, ff_, tt_, ff_, ff_, ff_, ff_, ff_, ff_] rfl rfl (take_ofW HT_.out HW_.out (by kernel_rfl)) (fun _ _ _ h => h) (Or.inl ⟨by rfl, ?_⟩) hHeld ?_ ?_
     rotate_left
     ·
      rintro w' ⟨s0, s1, s2, s3, s4⟩
      go_simp
      with_reducible rfl
     rotate_left
     ·
      simp only [Act.put, List.setIfInBounds_toArray, List.set_cons_zero, List.set_cons_succ, i64_w, i32_w]
      rfl
     refine one_ (i := 1) (N := some 20) (onA 9 3) rfl rfl (one_of HT_.out (by kernel_rfl)) (by decide) (fun K hK => ?_)
     refine goes_ Try.func14 (by kernel_rfl) rfl #[.agg #[.int .i64 a0_0, .int .i64 a0_1, .int .i64 a0_2, .int .i64 a0_3, .slice A0_4 l0_4.length c0_4]] (by rfl) rfl rfl (by (try simp only [List.map_toArray, List.map_cons, List.map_nil]); first | done | rfl | (simp only [List.length_drop, List.length_take]; rfl)) ?_
     with_reducible refine (code_May.calls kj2 a0_0 a0_1 a0_2 a0_3 _ _ l0_4 t293 _ ?side1 ?side2 A11.out).mono ?_
     (case side1 => repeat (first | exact (Kd.V_reads' HO_292004.out).2.2 | (with_reducible refine Kd.C_alloc ?_ _) | (with_reducible refine Kd.C_drewN ?_ _) | (with_reducible refine Kd.C_drew ?_)))
     (case side2 => exact (Kd.V_reads' HO_292004.out).2.1)
     rintro e w20 ⟨rfl, hb⟩
     refine ⟨_, rfl, ?_⟩
     have n0_ := Aside0.mk (Kd.V_below (by (with_reducible repeat (first | apply Kd.V_alloc | apply Kd.V_drewN | apply Kd.V_drew)); exact HO_292004.out) hb)
     have n1_ := Aside0.mk (blk_below (g := gb291) (o := .cells #[.int .i64 a0_0, .int .i64 a0_1, .int .i64 a0_2, .int .i64 a0_3, .slice A0_4 l0_4.length c0_4] 26 (0, 0)) (by (with_reducible repeat (first | refine blk_drewN ?_ _ | refine blk_drew ?_ | refine blk_alloc ?_ _)); exact BK291.out) hb)
     have n2_ := Aside0.mk (below_step (by repeat (first | (with_reducible first | exact HB.out | apply below_alloc | apply pw_below_drewN | apply below_drew1 | refine below_set ?_ GE291.out) | exact HB.out)) hb)
     clear HO_292004
     clear BK291
     clear HB
     have HO_292004 := n0_
     have BK291 := n1_
     have HB := n2_
     clear n0_ n1_ n2_
     (try clear hb)
     (try clear hb2)
     (try clear hk)
     (try clear hi)
     refine hK.out _ _ ⟨(blk_cell BK291.out 0).trans rfl, (blk_cell BK291.out 1).trans rfl, (blk_cell BK291.out 2).trans rfl, (blk_cell BK291.out 3).trans rfl, (blk_cell BK291.out 4).trans rfl⟩ (fun hHeld => ?_)
     clear hK K
     refine norm_ (a' := ?_) ?_ ?_
     rotate_left
     ·
      show Act.put _ (some 20) _ = _
      simp only [Act.put, List.setIfInBounds_toArray, List.set_cons_zero, List.set_cons_succ, i64_w, i32_w]
      rfl
     refine one_ (i := 3) (N := some 22) (onA 9 4) rfl rfl (one_of HT_.out (by kernel_rfl)) (by decide) (fun K hK => ?_)
     refine goes_ Try.func15 (by kernel_rfl) rfl #[.agg #[.int .i64 a0_0, .int .i64 a0_1, .int .i64 a0_2, .int .i64 a0_3, .slice A0_4 l0_4.length c0_4]] (by rfl) rfl rfl (by (try simp only [List.map_toArray, List.map_cons, List.map_nil]); first | done | rfl | (simp only [List.length_drop, List.length_take]; rfl)) ?_
     with_reducible refine (darningref4_MayOp.calls kj2 a0_0 a0_1 a0_2 a0_3 _ _ l0_4 t294 _ ?side1 ?side2 A12.out).mono ?_
     (case side1 => repeat (first | exact (Kd.V_reads' HO_292004.out).2.2 | (with_reducible refine Kd.C_alloc ?_ _) | (with_reducible refine Kd.C_drewN ?_ _) | (with_reducible refine Kd.C_drew ?_)))
     (case side2 => exact (Kd.V_reads' HO_292004.out).2.1)
     rintro e w21 ⟨rfl, hb⟩
     refine ⟨_, rfl, ?_⟩
     have n0_ := Aside0.mk (Kd.V_below (by (with_reducible repeat (first | apply Kd.V_alloc | apply Kd.V_drewN | apply Kd.V_drew)); exact HO_292004.out) hb)
     have n1_ := Aside0.mk (blk_below (g := gb291) (o := .cells #[.int .i64 a0_0, .int .i64 a0_1, .int .i64 a0_2, .int .i64 a0_3, .slice A0_4 l0_4.length c0_4] 26 (0, 0)) (by (with_reducible repeat (first | refine blk_drewN ?_ _ | refine blk_drew ?_ | refine blk_alloc ?_ _)); exact BK291.out) hb)
     have n2_ := Aside0.mk (below_step (by repeat (first | (with_reducible first | exact HB.out | apply below_alloc | apply pw_below_drewN | apply below_drew1 | refine below_set ?_ GE291.out) | exact HB.out)) hb)
     clear HO_292004
     clear BK291
     clear HB
     have HO_292004 := n0_
     have BK291 := n1_
     have HB := n2_
     clear n0_ n1_ n2_
     (try clear hb)
     (try clear hb2)
     (try clear hk)
     (try clear hi)
     refine hK.out _ _ ⟨(blk_cell BK291.out 0).trans rfl, (blk_cell BK291.out 1).trans rfl, (blk_cell BK291.out 2).trans rfl, (blk_cell BK291.out 3).trans rfl, (blk_cell BK291.out 4).trans rfl⟩ (fun hHeld => ?_)
     clear hK K
     refine norm_ (a' := ?_) ?_ ?_
     rotate_left
     ·
      show Act.put _ (some 22) _ = _
      simp only [Act.put, List.setIfInBounds_toArray, List.set_cons_zero, List.set_cons_succ, i64_w, i32_w]
      rfl
     refine pure_ (i := 4) (N := some 23) (v := ?_) (a' := ?_) (onA 9 5) rfl rfl (any_of HT_.out (by kernel_rfl)) (fun _ _ _ h => h) (Or.inl ⟨by rfl, ?_⟩) ?_ ?_
     rotate_left
     ·
      intro w'
      go_simp
      with_reducible rfl
     rotate_left
     ·
      simp only [Act.put, List.setIfInBounds_toArray, List.set_cons_zero, List.set_cons_succ, i64_w, i32_w]
      rfl
     refine pure_ (i := 5) (N := some 24) (v := ?_) (a' := ?_) (onA 9 6) rfl rfl (any_of HT_.out (by kernel_rfl)) (fun _ _ _ h => h) (Or.inl ⟨by rfl, ?_⟩) ?_ ?_
     rotate_left
     ·
      intro w'
      go_simp
      with_reducible rfl
     rotate_left
     ·
      simp only [Act.put, List.setIfInBounds_toArray, List.set_cons_zero, List.set_cons_succ, i64_w, i32_w]
      rfl
     refine pure_ (i := 6) (N := some 25) (v := undef) (a' := ?_) (onA 9 7) rfl rfl (any_of HT_.out (by kernel_rfl)) (fun _ _ _ h => h) (Or.inr ⟨by rfl, rfl⟩) ?_ ?_
     rotate_left
     ·
      simp only [Act.put, List.setIfInBounds_toArray, List.set_cons_zero, List.set_cons_succ, i64_w, i32_w]
      rfl
     refine pure_ (i := 7) (N := some 26) (v := ?_) (a' := ?_) (onA 9 8) rfl rfl (any_of HT_.out (by kernel_rfl)) (fun _ _ _ h => h) (Or.inl ⟨by rfl, ?_⟩) ?_ ?_
     rotate_left
     ·
      intro w'
      go_simp
      with_reducible rfl
     rotate_left
     ·
      simp only [Act.put, List.setIfInBounds_toArray, List.set_cons_zero, List.set_cons_succ, i64_w, i32_w]
      rfl
     refine pure_ (i := 8) (N := some 4) (v := ?_) (a' := ?_) (onA 9 9) rfl rfl (any_of HT_.out (by kernel_rfl)) (fun _ _ _ h => h) (Or.inl ⟨by rfl, ?_⟩) ?_ ?_
     rotate_left
     ·
      intro w'
      go_simp
      with_reducible rfl
     rotate_left
     ·
      simp only [Act.put, List.setIfInBounds_toArray, List.set_cons_zero, List.set_cons_succ, i64_w, i32_w]
      rfl
     refine done_ (done_of HT_.out (by kernel_rfl)) ?_
     try go_wp2
     go_ret
     exact ⟨by first | rfl | (simp [errW_none, errW_some] <;> rfl) | (simp [*, errW_none, errW_some] <;> rfl), by repeat (first | (with_reducible first | exact HB.out | apply below_alloc | apply pw_below_drewN | apply below_drew1 | refine below_set ?_ GE291.out) | exact HB.out)⟩
   ·
    replace c10 := Bool.eq_false_iff.mpr c10
    subst c10
    have H1 : ((code_Encode.f kj2 (([(⟨a0_0, a0_1, a0_2, a0_3, l0_4⟩ : S26)] : List (S26)))).bind fun bt299 => (if a0_0 = 1 then (darninglaw23_CodeEach.j1 kj2 bt299.1 bt299.2 a0_0 a0_1 a0_2 a0_3 l0_4 a0_0 (wrap64 (1 + (wrap64 (Int.tmod (IntKind.u64.wrap (a1)) 100)))) a0_2 a0_3 l0_4) else (if a0_0 = 6 then (darninglaw23_CodeEach.j1 kj2 bt299.1 bt299.2 a0_0 a0_1 a0_2 a0_3 l0_4 a0_0 (wrap64 (1 + (wrap64 (Int.tmod (IntKind.u64.wrap (a1)) 100)))) a0_2 a0_3 l0_4) else (if a0_0 = 8 then (darninglaw23_CodeEach.j1 kj2 bt299.1 bt299.2 a0_0 a0_1 a0_2 a0_3 l0_4 a0_0 (wrap64 (1 + (wrap64 (Int.tmod (IntKind.u64.wrap (a1)) 100)))) a0_2 a0_3 l0_4) else (if a0_0 = 7 then (darninglaw23_CodeEach.j1 kj2 bt299.1 bt299.2 a0_0 a0_1 a0_2 a0_3 l0_4 a0_0 (wrap64 (1 + (wrap64 (Int.tmod (IntKind.u64.wrap (a1)) 100)))) a0_2 a0_3 l0_4) else (darninglaw23_CodeEach.j1 kj2 bt299.1 bt299.2 a0_0 a0_1 a0_2 a0_3 l0_4 a0_0 a0_1 a0_2 (wrap64 (1 + (wrap64 (Int.tmod (IntKind.u64.wrap (a1)) 100)))) l0_4)))))) = some r := by rw [if_neg (show ¬ (false = true) by decide)] at H; exact H
    clear H
    have H := H1
    clear H1
    obtain ⟨y296, hy296⟩ : ∃ y_ : List (S26), y_ = (([(⟨a0_0, a0_1, a0_2, a0_3, l0_4⟩ : S26)] : List (S26))) := ⟨_, rfl⟩
    replace H : ((code_Encode.f kj2 y296).bind fun bt299 => (if a0_0 = 1 then (darninglaw23_CodeEach.j1 kj2 bt299.1 bt299.2 a0_0 a0_1 a0_2 a0_3 l0_4 a0_0 (wrap64 (1 + (wrap64 (Int.tmod (IntKind.u64.wrap (a1)) 100)))) a0_2 a0_3 l0_4) else (if a0_0 = 6 then (darninglaw23_CodeEach.j1 kj2 bt299.1 bt299.2 a0_0 a0_1 a0_2 a0_3 l0_4 a0_0 (wrap64 (1 + (wrap64 (Int.tmod (IntKind.u64.wrap (a1)) 100)))) a0_2 a0_3 l0_4) else (if a0_0 = 8 then (darninglaw23_CodeEach.j1 kj2 bt299.1 bt299.2 a0_0 a0_1 a0_2 a0_3 l0_4 a0_0 (wrap64 (1 + (wrap64 (Int.tmod (IntKind.u64.wrap (a1)) 100)))) a0_2 a0_3 l0_4) else (if a0_0 = 7 then (darninglaw23_CodeEach.j1 kj2 bt299.1 bt299.2 a0_0 a0_1 a0_2 a0_3 l0_4 a0_0 (wrap64 (1 + (wrap64 (Int.tmod (IntKind.u64.wrap (a1)) 100)))) a0_2 a0_3 l0_4) else (darninglaw23_CodeEach.j1 kj2 bt299.1 bt299.2 a0_0 a0_1 a0_2 a0_3 l0_4 a0_0 a0_1 a0_2 (wrap64 (1 + (wrap64 (Int.tmod (IntKind.u64.wrap (a1)) 100)))) l0_4)))))) = some r := by first | (rw [hy296]; with_reducible exact H) | (have H2_ := (Option.bind_some _ _).symm.trans H; rw [hy296]; with_reducible exact H2_) | (have H2_ := (Option.bind_some _ _).symm.trans H; with_reducible exact H2_) | with_reducible exact H | (rw [hy296]; exact H) | exact H
    have Ny296 := Aside0.mk hy296
    clear hy296
    replace H := Option.bind_eq_some_iff.mp H
    obtain ⟨⟨t299, t300⟩, A220, H⟩ := H
    replace H : (if a0_0 = 1 then (darninglaw23_CodeEach.j1 kj2 t299 t300 a0_0 a0_1 a0_2 a0_3 l0_4 a0_0 (wrap64 (1 + (wrap64 (Int.tmod (IntKind.u64.wrap (a1)) 100)))) a0_2 a0_3 l0_4) else (if a0_0 = 6 then (darninglaw23_CodeEach.j1 kj2 t299 t300 a0_0 a0_1 a0_2 a0_3 l0_4 a0_0 (wrap64 (1 + (wrap64 (Int.tmod (IntKind.u64.wrap (a1)) 100)))) a0_2 a0_3 l0_4) else (if a0_0 = 8 then (darninglaw23_CodeEach.j1 kj2 t299 t300 a0_0 a0_1 a0_2 a0_3 l0_4 a0_0 (wrap64 (1 + (wrap64 (Int.tmod (IntKind.u64.wrap (a1)) 100)))) a0_2 a0_3 l0_4) else (if a0_0 = 7 then (darninglaw23_CodeEach.j1 kj2 t299 t300 a0_0 a0_1 a0_2 a0_3 l0_4 a0_0 (wrap64 (1 + (wrap64 (Int.tmod (IntKind.u64.wrap (a1)) 100)))) a0_2 a0_3 l0_4) else (darninglaw23_CodeEach.j1 kj2 t299 t300 a0_0 a0_1 a0_2 a0_3 l0_4 a0_0 a0_1 a0_2 (wrap64 (1 + (wrap64 (Int.tmod (IntKind.u64.wrap (a1)) 100)))) l0_4))))) = some r := H
    have A22 := Aside0.mk A220
    clear A220
    have HC23 := Aside0.mk H
    clear H
    have hcz24_0 : wc.cell? ⟨gb291, 0, none⟩ = some (.int .i64 a0_0) := (blk_cell BK291.out 0).trans rfl
    have hcz24_1 : wc.cell? ⟨gb291, 1, none⟩ = some (.int .i64 a0_1) := (blk_cell BK291.out 1).trans rfl
    have hcz24_2 : wc.cell? ⟨gb291, 2, none⟩ = some (.int .i64 a0_2) := (blk_cell BK291.out 2).trans rfl
    have hcz24_3 : wc.cell? ⟨gb291, 3, none⟩ = some (.int .i64 a0_3) := (blk_cell BK291.out 3).trans rfl
    have hcz24_4 : wc.cell? ⟨gb291, 4, none⟩ = some (.slice A0_4 l0_4.length c0_4) := (blk_cell BK291.out 4).trans rfl
    have hfz24_0 := blk_frozen BK291.out 0
    have hfz24_1 := blk_frozen BK291.out 1
    have hfz24_2 := blk_frozen BK291.out 2
    have hfz24_3 := blk_frozen BK291.out 3
    have hfz24_4 := blk_frozen BK291.out 4
    go_upto_block 0 with (first | ((with_reducible refine gate_dst (N := 29) rfl ?_); (try (refine gate_guard (by rfl) ?_; dsimp only)); refine Kd.N_lit k26 _ 26 ?hg (N' := 29) ?hd (xs := ([(⟨a0_0, a0_1, a0_2, a0_3, l0_4⟩ : S26)] : List (S26))) (inner := [.int .i64 a0_0, .int .i64 a0_1, .int .i64 a0_2, .int .i64 a0_3, .slice A0_4 l0_4.length c0_4]) (ok := (fun k_ => (P0_4_ k_ ∨ w.heap.size ≤ k_) ∧ k_ ≠ gb291)) (okp := (fun k_ => (P0_4_ k_ ∨ w.heap.size ≤ k_) ∧ k_ ≠ gb291)) ?hr ?hp (fun _ hk => hk) ((show ∀ k_, wc.heap.size ≤ k_ → (fun k_ => (P0_4_ k_ ∨ w.heap.size ≤ k_) ∧ k_ ≠ gb291) k_ from fun k_ hk => ⟨(.inr (Nat.le_trans (below_size (by repeat (first | (with_reducible first | exact HB.out | apply below_alloc | apply pw_below_drewN | apply below_drew1 | refine below_set ?_ GE291.out) | exact HB.out))) hk)), Kd.freshB (g := gb291) (o := .cells #[.int .i64 a0_0, .int .i64 a0_1, .int .i64 a0_2, .int .i64 a0_3, .slice A0_4 l0_4.length c0_4] 26 (0, 0)) (by (with_reducible repeat (first | refine blk_drewN ?_ _ | refine blk_drew ?_ | refine blk_alloc ?_ _)); exact BK291.out) k_ hk⟩) _ (Nat.le_refl _)) (Below.refl _ _) (Nat.le_refl _) (by simp) ?_; (case hd => rfl); (case hg => rfl); (case hr => first | (go_simp; done) | (go_simp; rfl)); (case hp => exact (Reps.c5 (show Kd.FK k26 _ _ (⟨a0_0, a0_1, a0_2, a0_3, l0_4⟩ : S26) [.int .i64 a0_0, .int .i64 a0_1, .int .i64 a0_2, .int .i64 a0_3, .slice A0_4 l0_4.length c0_4] from (k26_mkF _ _ (⟨a0_0, a0_1, a0_2, a0_3, l0_4⟩ : S26) (Kd.V_reads' (Kd.V_mono (ok' := (fun k_ => (P0_4_ k_ ∨ w.heap.size ≤ k_) ∧ k_ ≠ gb291)) (HO_292004.out) (fun k_ hk => ⟨hk.1, hk.2⟩))).2.1 (Kd.V_F (Kd.V_mono (ok' := (fun k_ => (P0_4_ k_ ∨ w.heap.size ≤ k_) ∧ k_ ≠ gb291)) (HO_292004.out) (fun k_ hk => ⟨hk.1, hk.2⟩))))) (Reps.none _ _))); intro v297 w25 ho26 hb hg_ hnew_; clear hg_ hnew_; (first | rw [← Ny296.out] at ho26 | (simp only [Int.reduceToNat] at ho26; rw [← Ny296.out] at ho26)); have n0_ := Aside0.mk (Kd.V_elder' (by (with_reducible repeat (first | apply Kd.V_alloc | apply Kd.V_drewN | apply Kd.V_drew)); exact HO_292004.out) (Kd.N_base ho26) hb); have n1_ := Aside0.mk (Kd.N_lower ho26 (below_size (by repeat (first | (with_reducible first | exact HB.out | apply below_alloc | apply pw_below_drewN | apply below_drew1 | refine below_set ?_ GE291.out) | exact HB.out)))); have n2_ := Aside0.mk (blk_below (g := gb291) (o := .cells #[.int .i64 a0_0, .int .i64 a0_1, .int .i64 a0_2, .int .i64 a0_3, .slice A0_4 l0_4.length c0_4] 26 (0, 0)) (by (with_reducible repeat (first | refine blk_drewN ?_ _ | refine blk_drew ?_ | refine blk_alloc ?_ _)); exact BK291.out) hb); have n3_ := Aside0.mk (below_step (by repeat (first | (with_reducible first | exact HB.out | apply below_alloc | apply pw_below_drewN | apply below_drew1 | refine below_set ?_ GE291.out) | exact HB.out)) hb); clear HO_292004; clear BK291; clear HB; have HO_292004 := n0_; have HO298 := n1_; have BK291 := n2_; have HB := n3_; clear n0_ n1_ n2_ n3_; clear hb ho26; obtain ⟨Ao27, co27, eo27⟩ := Kd.N_slice HO298.out; subst eo27) | ((with_reducible refine gate_callee (f := 16) rfl ?_); refine goesL_ (some 30) rfl rfl Try.func16 (by kernel_rfl) rfl #[.slice Ao27 y296.length co27] rfl (by (try simp only [List.map_toArray, List.map_cons, List.map_nil]); first | done | rfl | (simp only [List.length_drop, List.length_take]; rfl)) ?_; (with_reducible refine (code_Encode.calls kj2 _ _ y296 t299 t300 _ ?side1 ?side2 A22.out).mono ?_); (case side1 => repeat (first | exact (Kd.N_reads' HO298.out).2.2 | (with_reducible refine Kd.C_alloc ?_ _) | (with_reducible refine Kd.C_drewN ?_ _) | (with_reducible refine Kd.C_drew ?_))); (case side2 => exact (Kd.N_reads' HO298.out).2.1); rintro e w28 ⟨v301, rfl, ho0, hb⟩; refine ⟨_, rfl, ?_⟩; have n0_ := Aside0.mk (Kd.V_elder' (by (with_reducible repeat (first | apply Kd.V_alloc | apply Kd.V_drewN | apply Kd.V_drew)); exact HO_292004.out) (Kd.R_base ho0) hb); have n1_ := Aside0.mk (Kd.N_elder' (by (with_reducible repeat (first | apply Kd.N_alloc | apply Kd.N_drewN | apply Kd.N_drew)); exact HO298.out) (Kd.R_base ho0) hb); have n2_ := Aside0.mk (Kd.R_lower (Kd.R_newM (M := fun k_ => (w.heap.size ≤ k_)) ho0 (below_size (by repeat (first | (with_reducible first | exact HB.out | apply below_alloc | apply pw_below_drewN | apply below_drew1 | refine below_set ?_ GE291.out) | exact HB.out))) (fun k_ h_ => h_)) (below_size (by repeat (first | (with_reducible first | exact HB.out | apply below_alloc | apply pw_below_drewN | apply below_drew1 | refine below_set ?_ GE291.out) | exact HB.out)))); have n3_ := Aside0.mk (blk_below (g := gb291) (o := .cells #[.int .i64 a0_0, .int .i64 a0_1, .int .i64 a0_2, .int .i64 a0_3, .slice A0_4 l0_4.length c0_4] 26 (0, 0)) (by (with_reducible repeat (first | refine blk_drewN ?_ _ | refine blk_drew ?_ | refine blk_alloc ?_ _)); exact BK291.out) hb); have n4_ := Aside0.mk (below_step (by repeat (first | (with_reducible first | exact HB.out | apply below_alloc | apply pw_below_drewN | apply below_drew1 | refine below_set ?_ GE291.out) | exact HB.out)) hb); clear HO_292004; clear HO298; clear BK291; clear HB; have HO_292004 := n0_; have HO298 := n1_; have HO302 := n2_; have BK291 := n3_; have HB := n4_; clear n0_ n1_ n2_ n3_ n4_; (try clear hb); (try clear hb2); (try clear hk); (try clear hi); (try clear ho0); have hcz29_0 : w28.cell? ⟨gb291, 0, none⟩ = some (.int .i64 a0_0) := (blk_cell BK291.out 0).trans rfl; have hcz29_1 : w28.cell? ⟨gb291, 1, none⟩ = some (.int .i64 a0_1) := (blk_cell BK291.out 1).trans rfl; have hcz29_2 : w28.cell? ⟨gb291, 2, none⟩ = some (.int .i64 a0_2) := (blk_cell BK291.out 2).trans rfl; have hcz29_3 : w28.cell? ⟨gb291, 3, none⟩ = some (.int .i64 a0_3) := (blk_cell BK291.out 3).trans rfl; have hcz29_4 : w28.cell? ⟨gb291, 4, none⟩ = some (.slice A0_4 l0_4.length c0_4) := (blk_cell BK291.out 4).trans rfl; have hfz29_0 := blk_frozen BK291.out 0; have hfz29_1 := blk_frozen BK291.out 1; have hfz29_2 := blk_frozen BK291.out 2; have hfz29_3 := blk_frozen BK291.out 3; have hfz29_4 := blk_frozen BK291.out 4) | ((with_reducible refine gate_dst (N := 7) rfl ?_); (try (refine gate_guard (by rfl) ?_; dsimp only)); refine box_event ?hg (N := 7) ?hd (cs := #[.int .i64 0, .int .i64 0, .int .i64 0, .int .i64 0, .slice none 0 0]) (t := 26) ?hr ?_; (case hd => rfl); (case hg => rfl); (case hr => first | (go_simp; done) | (go_simp; rfl)); intro gb303 hg w30 hbox hb; have n0_ := Aside0.mk (Kd.V_below (Kd.V_elderB (by (with_reducible repeat (first | apply Kd.V_alloc | apply Kd.V_drewN | apply Kd.V_drew)); exact HO_292004.out) gb303 (Nat.le_of_eq hg.symm)) hb); have n1_ := Aside0.mk (Kd.N_below (Kd.N_elderB (by (with_reducible repeat (first | apply Kd.N_alloc | apply Kd.N_drewN | apply Kd.N_drew)); exact HO298.out) gb303 (Nat.le_of_eq hg.symm)) hb); have n2_ := Aside0.mk (Kd.R_below (by (with_reducible repeat (first | apply Kd.R_alloc | apply Kd.R_drewN | apply Kd.R_drew)); exact HO302.out) hb); have n3_ := Aside0.mk (blk_below (g := gb291) (o := .cells #[.int .i64 a0_0, .int .i64 a0_1, .int .i64 a0_2, .int .i64 a0_3, .slice A0_4 l0_4.length c0_4] 26 (0, 0)) (by (with_reducible repeat (first | refine blk_drewN ?_ _ | refine blk_drew ?_ | refine blk_alloc ?_ _)); exact BK291.out) hb); have n4_ := Aside0.mk (below_step (by repeat (first | (with_reducible first | exact HB.out | apply below_alloc | apply pw_below_drewN | apply below_drew1 | refine below_set ?_ GE291.out) | exact HB.out)) hb); have n5_ := Aside0.mk (hbox); have n6_ := Aside0.mk ((by rw [hg]; exact (below_size (by repeat (first | (with_reducible first | exact HB.out | apply below_alloc | apply pw_below_drewN | apply below_drew1 | refine below_set ?_ GE291.out) | exact HB.out))) : w.heap.size ≤ gb303)); have n7_ := Aside0.mk ((by rw [hg]; exact (below_size (by repeat (first | (with_reducible first | exact HB.out | apply below_alloc | apply pw_below_drewN | apply below_drew1 | refine below_set ?_ GE291.out) | exact HB.out))) : w.heap.size ≤ gb303)); have n8_ := Aside0.mk ((by rw [hg]; exact Nat.ne_of_lt (blk_lt (g := gb291) (o := .cells #[.int .i64 a0_0, .int .i64 a0_1, .int .i64 a0_2, .int .i64 a0_3, .slice A0_4 l0_4.length c0_4] 26 (0, 0)) (by (with_reducible repeat (first | refine blk_drewN ?_ _ | refine blk_drew ?_ | refine blk_alloc ?_ _)); exact BK291.out)) : gb291 ≠ gb303)); have n9_ := Aside0.mk ((by rw [hg]; exact Nat.ne_of_gt (blk_lt (g := gb291) (o := .cells #[.int .i64 a0_0, .int .i64 a0_1, .int .i64 a0_2, .int .i64 a0_3, .slice A0_4 l0_4.length c0_4] 26 (0, 0)) (by (with_reducible repeat (first | refine blk_drewN ?_ _ | refine blk_drew ?_ | refine blk_alloc ?_ _)); exact BK291.out)) : gb303 ≠ gb291)); clear HO_292004; clear HO298; clear HO302; clear BK291; clear HB; have HO_292004 := n0_; have HO298 := n1_; have HO302 := n2_; have BK291 := n3_; have HB := n4_; have BK303 := n5_; have GW303 := n6_; have GE303 := n7_; have NB291_303 := n8_; have NB303_291 := n9_; clear n0_ n1_ n2_ n3_ n4_ n5_ n6_ n7_ n8_ n9_; clear hb hbox hg; have hnb31 := NB303_291.out; have hnc31 := NB291_303.out; have hcz32_0 : w30.cell? ⟨gb303, 0, none⟩ = some (.int .i64 0) := (blk_cell BK303.out 0).trans rfl; have hcz32_1 : w30.cell? ⟨gb303, 1, none⟩ = some (.int .i64 0) := (blk_cell BK303.out 1).trans rfl; have hcz32_2 : w30.cell? ⟨gb303, 2, none⟩ = some (.int .i64 0) := (blk_cell BK303.out 2).trans rfl; have hcz32_3 : w30.cell? ⟨gb303, 3, none⟩ = some (.int .i64 0) := (blk_cell BK303.out 3).trans rfl; have hcz32_4 : w30.cell? ⟨gb303, 4, none⟩ = some (.slice none 0 0) := (blk_cell BK303.out 4).trans rfl; have hfz32_0 := blk_frozen BK303.out 0; have hfz32_1 := blk_frozen BK303.out 1; have hfz32_2 := blk_frozen BK303.out 2; have hfz32_3 := blk_frozen BK303.out 3; have hfz32_4 := blk_frozen BK303.out 4; have hcz33_0 : w30.cell? ⟨gb291, 0, none⟩ = some (.int .i64 a0_0) := (blk_cell BK291.out 0).trans rfl; have hcz33_1 : w30.cell? ⟨gb291, 1, none⟩ = some (.int .i64 a0_1) := (blk_cell BK291.out 1).trans rfl; have hcz33_2 : w30.cell? ⟨gb291, 2, none⟩ = some (.int .i64 a0_2) := (blk_cell BK291.out 2).trans rfl; have hcz33_3 : w30.cell? ⟨gb291, 3, none⟩ = some (.int .i64 a0_3) := (blk_cell BK291.out 3).trans rfl; have hcz33_4 : w30.cell? ⟨gb291, 4, none⟩ = some (.slice A0_4 l0_4.length c0_4) := (blk_cell BK291.out 4).trans rfl; have hfz33_0 := blk_frozen BK291.out 0; have hfz33_1 := blk_frozen BK291.out 1; have hfz33_2 := blk_frozen BK291.out 2; have hfz33_3 := blk_frozen BK291.out 3; have hfz33_4 := blk_frozen BK291.out 4))
    (try simp only [Act.put, List.setIfInBounds_toArray, List.set_cons_zero, List.set_cons_succ])
    go_cut [] (fun wc => ∃ (kq : Nat) (x304001_22 : Int) (x304003_22 : Int), Aside0 (darninglaw23_CodeEach.j1 kq t299 t300 a0_0 a0_1 a0_2 a0_3 l0_4 a0_0 x304001_22 a0_2 x304003_22 l0_4 = some r) ∧ Aside0 (kq ≤ kj2) ∧ Aside0 (Kd.R (Kd.int .u8) 5 wc w.heap.size (fun k_ => (w.heap.size ≤ k_)) v301 t299) ∧ Aside0 (Kd.V (Kd.int .u8) 5 wc w.heap.size (fun k_ => (P0_4_ k_ ∨ w.heap.size ≤ k_) ∧ some k_ ≠ (v301 : Value).ownBlock ∧ k_ ≠ gb291 ∧ k_ ≠ gb303) (.slice A0_4 l0_4.length c0_4) l0_4) ∧ Aside0 (Kd.V (Kd.int .u8) 5 wc w.heap.size (fun k_ => (P0_4_ k_ ∨ w.heap.size ≤ k_) ∧ some k_ ≠ (v301 : Value).ownBlock ∧ k_ ≠ gb291 ∧ k_ ≠ gb303) (.slice A0_4 l0_4.length c0_4) l0_4) ∧ Aside0 (wc.heap[gb291]? = some (.cells #[.int .i64 a0_0, .int .i64 a0_1, .int .i64 a0_2, .int .i64 a0_3, (.slice A0_4 l0_4.length c0_4)] 26 (0, 0))) ∧ Aside0 (wc.heap[gb303]? = some (.cells #[.int .i64 a0_0, .int .i64 x304001_22, .int .i64 a0_2, .int .i64 x304003_22, (.slice A0_4 l0_4.length c0_4)] 26 (0, 0))) ∧ Aside0 (Below w.heap.size w wc))
    case first =>
     have H := HC23.out
     clear HC23
     by_cases c34 : a0_0 = 1
     ·
      rw [if_pos c34] at H
      have c34b0 : (a0_0 == 1) = true := beq_iff_eq.mpr c34
      have c34b1 : (a0_0 != 1) = false := bne_eq_false_iff_eq.mpr c34
      clear c34
      (first | rw [c34b0] | (simp only [i64_w, i32_w]; rw [c34b0]) | skip)
      have H' := Aside0.mk H
      clear H
      have hnb35 := NB303_291.out
      have hnc35 := NB291_303.out
      have hcz36_0 : w30.cell? ⟨gb303, 0, none⟩ = some (.int .i64 0) := (blk_cell BK303.out 0).trans rfl
      have hcz36_1 : w30.cell? ⟨gb303, 1, none⟩ = some (.int .i64 0) := (blk_cell BK303.out 1).trans rfl
      have hcz36_2 : w30.cell? ⟨gb303, 2, none⟩ = some (.int .i64 0) := (blk_cell BK303.out 2).trans rfl
      have hcz36_3 : w30.cell? ⟨gb303, 3, none⟩ = some (.int .i64 0) := (blk_cell BK303.out 3).trans rfl
      have hcz36_4 : w30.cell? ⟨gb303, 4, none⟩ = some (.slice none 0 0) := (blk_cell BK303.out 4).trans rfl
      have hfz36_0 := blk_frozen BK303.out 0
      have hfz36_1 := blk_frozen BK303.out 1
      have hfz36_2 := blk_frozen BK303.out 2
      have hfz36_3 := blk_frozen BK303.out 3
      have hfz36_4 := blk_frozen BK303.out 4
      go_wp2
      go_meet
      case rel => exact ⟨_, (wrap64 (1 + (wrap64 (Int.tmod (IntKind.u64.wrap (a1)) 100)))), (a0_3), H', ⟨by have := HJ2.out; first | omega | exact Nat.le_refl _⟩, ⟨by (with_reducible repeat (first | apply Kd.R_alloc | apply Kd.R_drewN | apply Kd.R_drew)); exact Kd.R_mono (Kd.R_far (p := ⟨gb303, 1, none⟩) (Kd.R_far (p := ⟨gb303, 4, none⟩) (Kd.R_far (p := ⟨gb303, 3, none⟩) (Kd.R_far (p := ⟨gb303, 2, none⟩) (Kd.R_far (p := ⟨gb303, 1, none⟩) (Kd.R_far (p := ⟨gb303, 0, none⟩) (Kd.R_types HO302.out BK303.out (by decide)) (fun _ hk => hk.2) (.int .i64 a0_0)) (fun _ hk => hk.2) (.int .i64 a0_1)) (fun _ hk => hk.2) (.int .i64 a0_2)) (fun _ hk => hk.2) (.int .i64 a0_3)) (fun _ hk => hk.2) (.slice A0_4 l0_4.length c0_4)) (fun _ hk => hk.2) (.int .i64 (wrap64 (1 + (wrap64 (Int.tmod (IntKind.u64.wrap (a1)) 100)))))) (fun _ hk => hk.1.1)⟩, ⟨by (with_reducible repeat (first | apply Kd.V_alloc | apply Kd.V_drewN | apply Kd.V_drew)); exact Kd.V_mono (Kd.V_far (p := ⟨gb303, 1, none⟩) (Kd.V_far (p := ⟨gb303, 4, none⟩) (Kd.V_far (p := ⟨gb303, 3, none⟩) (Kd.V_far (p := ⟨gb303, 2, none⟩) (Kd.V_far (p := ⟨gb303, 1, none⟩) (Kd.V_far (p := ⟨gb303, 0, none⟩) (Kd.V_mono HO_292004.out (fun k_ hk => (⟨hk, hk.2⟩ : _ ∧ k_ ≠ gb303))) (fun _ hk => hk.2) (.int .i64 a0_0)) (fun _ hk => hk.2) (.int .i64 a0_1)) (fun _ hk => hk.2) (.int .i64 a0_2)) (fun _ hk => hk.2) (.int .i64 a0_3)) (fun _ hk => hk.2) (.slice A0_4 l0_4.length c0_4)) (fun _ hk => hk.2) (.int .i64 (wrap64 (1 + (wrap64 (Int.tmod (IntKind.u64.wrap (a1)) 100)))))) (fun _ hk => ⟨hk.1.1.1.1.1, ⟨hk.1.1.2, ⟨hk.1.1.1.1.2, hk.1.2⟩⟩⟩)⟩, ⟨by (with_reducible repeat (first | apply Kd.V_alloc | apply Kd.V_drewN | apply Kd.V_drew)); exact Kd.V_mono (Kd.V_far (p := ⟨gb303, 1, none⟩) (Kd.V_far (p := ⟨gb303, 4, none⟩) (Kd.V_far (p := ⟨gb303, 3, none⟩) (Kd.V_far (p := ⟨gb303, 2, none⟩) (Kd.V_far (p := ⟨gb303, 1, none⟩) (Kd.V_far (p := ⟨gb303, 0, none⟩) (Kd.V_mono HO_292004.out (fun k_ hk => (⟨hk, hk.2⟩ : _ ∧ k_ ≠ gb303))) (fun _ hk => hk.2) (.int .i64 a0_0)) (fun _ hk => hk.2) (.int .i64 a0_1)) (fun _ hk => hk.2) (.int .i64 a0_2)) (fun _ hk => hk.2) (.int .i64 a0_3)) (fun _ hk => hk.2) (.slice A0_4 l0_4.length c0_4)) (fun _ hk => hk.2) (.int .i64 (wrap64 (1 + (wrap64 (Int.tmod (IntKind.u64.wrap (a1)) 100)))))) (fun _ hk => ⟨hk.1.1.1.1.1, ⟨hk.1.1.2, ⟨hk.1.1.1.1.2, hk.1.2⟩⟩⟩)⟩, ⟨by (with_reducible repeat (first | refine blk_drewN ?_ _ | refine blk_drew ?_ | refine blk_alloc ?_ _)); refine blk_far ?_ NB291_303.out _; (with_reducible repeat (first | refine blk_drewN ?_ _ | refine blk_drew ?_ | refine blk_alloc ?_ _)); refine blk_far ?_ NB291_303.out _; (with_reducible repeat (first | refine blk_drewN ?_ _ | refine blk_drew ?_ | refine blk_alloc ?_ _)); refine blk_far ?_ NB291_303.out _; (with_reducible repeat (first | refine blk_drewN ?_ _ | refine blk_drew ?_ | refine blk_alloc ?_ _)); refine blk_far ?_ NB291_303.out _; (with_reducible repeat (first | refine blk_drewN ?_ _ | refine blk_drew ?_ | refine blk_alloc ?_ _)); refine blk_far ?_ NB291_303.out _; (with_reducible repeat (first | refine blk_drewN ?_ _ | refine blk_drew ?_ | refine blk_alloc ?_ _)); refine blk_far ?_ NB291_303.out _; (with_reducible repeat (first | refine blk_drewN ?_ _ | refine blk_drew ?_ | refine blk_alloc ?_ _)); exact BK291.out⟩, ⟨by (with_reducible repeat (first | refine blk_drewN ?_ _ | refine blk_drew ?_ | refine blk_alloc ?_ _)); refine blk_put (cs := #[.int .i64 a0_0, .int .i64 a0_1, .int .i64 a0_2, .int .i64 a0_3, .slice A0_4 l0_4.length c0_4]) ?_ 1 _ rfl; (with_reducible repeat (first | refine blk_drewN ?_ _ | refine blk_drew ?_ | refine blk_alloc ?_ _)); refine blk_put (cs := #[.int .i64 a0_0, .int .i64 a0_1, .int .i64 a0_2, .int .i64 a0_3, .slice none 0 0]) ?_ 4 _ rfl; (with_reducible repeat (first | refine blk_drewN ?_ _ | refine blk_drew ?_ | refine blk_alloc ?_ _)); refine blk_put (cs := #[.int .i64 a0_0, .int .i64 a0_1, .int .i64 a0_2, .int .i64 0, .slice none 0 0]) ?_ 3 _ rfl; (with_reducible repeat (first | refine blk_drewN ?_ _ | refine blk_drew ?_ | refine blk_alloc ?_ _)); refine blk_put (cs := #[.int .i64 a0_0, .int .i64 a0_1, .int .i64 0, .int .i64 0, .slice none 0 0]) ?_ 2 _ rfl; (with_reducible repeat (first | refine blk_drewN ?_ _ | refine blk_drew ?_ | refine blk_alloc ?_ _)); refine blk_put (cs := #[.int .i64 a0_0, .int .i64 0, .int .i64 0, .int .i64 0, .slice none 0 0]) ?_ 1 _ rfl; (with_reducible repeat (first | refine blk_drewN ?_ _ | refine blk_drew ?_ | refine blk_alloc ?_ _)); refine blk_put (cs := #[.int .i64 0, .int .i64 0, .int .i64 0, .int .i64 0, .slice none 0 0]) ?_ 0 _ rfl; (with_reducible repeat (first | refine blk_drewN ?_ _ | refine blk_drew ?_ | refine blk_alloc ?_ _)); exact BK303.out⟩, ⟨by repeat (first | (with_reducible first | exact HB.out | apply below_alloc | apply pw_below_drewN | apply below_drew1 | refine below_set ?_ GE291.out | refine below_set ?_ GE303.out) | exact HB.out)⟩⟩
     ·
      rw [if_neg c34] at H
      have c34b0 : (a0_0 == 1) = false := beq_eq_false_iff_ne.mpr c34
      have c34b1 : (a0_0 != 1) = true := bne_iff_ne.mpr c34
      (first | rw [c34b0] | (simp only [i64_w, i32_w]; rw [c34b0]) | skip)
      by_cases c37 : a0_0 = 6
      ·
       rw [if_pos c37] at H
       have c37b0 : (a0_0 == 6) = true := beq_iff_eq.mpr c37
       have c37b1 : (a0_0 != 6) = false := bne_eq_false_iff_eq.mpr c37
       clear c37
       have H' := Aside0.mk H
       clear H
       have hnb38 := NB303_291.out
       have hnc38 := NB291_303.out
       have hcz39_0 : w30.cell? ⟨gb303, 0, none⟩ = some (.int .i64 0) := (blk_cell BK303.out 0).trans rfl
       have hcz39_1 : w30.cell? ⟨gb303, 1, none⟩ = some (.int .i64 0) := (blk_cell BK303.out 1).trans rfl
       have hcz39_2 : w30.cell? ⟨gb303, 2, none⟩ = some (.int .i64 0) := (blk_cell BK303.out 2).trans rfl
       have hcz39_3 : w30.cell? ⟨gb303, 3, none⟩ = some (.int .i64 0) := (blk_cell BK303.out 3).trans rfl
       have hcz39_4 : w30.cell? ⟨gb303, 4, none⟩ = some (.slice none 0 0) := (blk_cell BK303.out 4).trans rfl
       have hfz39_0 := blk_frozen BK303.out 0
       have hfz39_1 := blk_frozen BK303.out 1
       have hfz39_2 := blk_frozen BK303.out 2
       have hfz39_3 := blk_frozen BK303.out 3
       have hfz39_4 := blk_frozen BK303.out 4
       go_wp2
       go_meet
       case rel => exact ⟨_, (wrap64 (1 + (wrap64 (Int.tmod (IntKind.u64.wrap (a1)) 100)))), (a0_3), H', ⟨by have := HJ2.out; first | omega | exact Nat.le_refl _⟩, ⟨by (with_reducible repeat (first | apply Kd.R_alloc | apply Kd.R_drewN | apply Kd.R_drew)); exact Kd.R_mono (Kd.R_far (p := ⟨gb303, 1, none⟩) (Kd.R_far (p := ⟨gb303, 4, none⟩) (Kd.R_far (p := ⟨gb303, 3, none⟩) (Kd.R_far (p := ⟨gb303, 2, none⟩) (Kd.R_far (p := ⟨gb303, 1, none⟩) (Kd.R_far (p := ⟨gb303, 0, none⟩) (Kd.R_types HO302.out BK303.out (by decide)) (fun _ hk => hk.2) (.int .i64 a0_0)) (fun _ hk => hk.2) (.int .i64 a0_1)) (fun _ hk => hk.2) (.int .i64 a0_2)) (fun _ hk => hk.2) (.int .i64 a0_3)) (fun _ hk => hk.2) (.slice A0_4 l0_4.length c0_4)) (fun _ hk => hk.2) (.int .i64 (wrap64 (1 + (wrap64 (Int.tmod (IntKind.u64.wrap (a1)) 100)))))) (fun _ hk => hk.1.1)⟩, ⟨by (with_reducible repeat (first | apply Kd.V_alloc | apply Kd.V_drewN | apply Kd.V_drew)); exact Kd.V_mono (Kd.V_far (p := ⟨gb303, 1, none⟩) (Kd.V_far (p := ⟨gb303, 4, none⟩) (Kd.V_far (p := ⟨gb303, 3, none⟩) (Kd.V_far (p := ⟨gb303, 2, none⟩) (Kd.V_far (p := ⟨gb303, 1, none⟩) (Kd.V_far (p := ⟨gb303, 0, none⟩) (Kd.V_mono HO_292004.out (fun k_ hk => (⟨hk, hk.2⟩ : _ ∧ k_ ≠ gb303))) (fun _ hk => hk.2) (.int .i64 a0_0)) (fun _ hk => hk.2) (.int .i64 a0_1)) (fun _ hk => hk.2) (.int .i64 a0_2)) (fun _ hk => hk.2) (.int .i64 a0_3)) (fun _ hk => hk.2) (.slice A0_4 l0_4.length c0_4)) (fun _ hk => hk.2) (.int .i64 (wrap64 (1 + (wrap64 (Int.tmod (IntKind.u64.wrap (a1)) 100)))))) (fun _ hk => ⟨hk.1.1.1.1.1, ⟨hk.1.1.2, ⟨hk.1.1.1.1.2, hk.1.2⟩⟩⟩)⟩, ⟨by (with_reducible repeat (first | apply Kd.V_alloc | apply Kd.V_drewN | apply Kd.V_drew)); exact Kd.V_mono (Kd.V_far (p := ⟨gb303, 1, none⟩) (Kd.V_far (p := ⟨gb303, 4, none⟩) (Kd.V_far (p := ⟨gb303, 3, none⟩) (Kd.V_far (p := ⟨gb303, 2, none⟩) (Kd.V_far (p := ⟨gb303, 1, none⟩) (Kd.V_far (p := ⟨gb303, 0, none⟩) (Kd.V_mono HO_292004.out (fun k_ hk => (⟨hk, hk.2⟩ : _ ∧ k_ ≠ gb303))) (fun _ hk => hk.2) (.int .i64 a0_0)) (fun _ hk => hk.2) (.int .i64 a0_1)) (fun _ hk => hk.2) (.int .i64 a0_2)) (fun _ hk => hk.2) (.int .i64 a0_3)) (fun _ hk => hk.2) (.slice A0_4 l0_4.length c0_4)) (fun _ hk => hk.2) (.int .i64 (wrap64 (1 + (wrap64 (Int.tmod (IntKind.u64.wrap (a1)) 100)))))) (fun _ hk => ⟨hk.1.1.1.1.1, ⟨hk.1.1.2, ⟨hk.1.1.1.1.2, hk.1.2⟩⟩⟩)⟩, ⟨by (with_reducible repeat (first | refine blk_drewN ?_ _ | refine blk_drew ?_ | refine blk_alloc ?_ _)); refine blk_far ?_ NB291_303.out _; (with_reducible repeat (first | refine blk_drewN ?_ _ | refine blk_drew ?_ | refine blk_alloc ?_ _)); refine blk_far ?_ NB291_303.out _; (with_reducible repeat (first | refine blk_drewN ?_ _ | refine blk_drew ?_ | refine blk_alloc ?_ _)); refine blk_far ?_ NB291_303.out _; (with_reducible repeat (first | refine blk_drewN ?_ _ | refine blk_drew ?_ | refine blk_alloc ?_ _)); refine blk_far ?_ NB291_303.out _; (with_reducible repeat (first | refine blk_drewN ?_ _ | refine blk_drew ?_ | refine blk_alloc ?_ _)); refine blk_far ?_ NB291_303.out _; (with_reducible repeat (first | refine blk_drewN ?_ _ | refine blk_drew ?_ | refine blk_alloc ?_ _)); refine blk_far ?_ NB291_303.out _; (with_reducible repeat (first | refine blk_drewN ?_ _ | refine blk_drew ?_ | refine blk_alloc ?_ _)); exact BK291.out⟩, ⟨by (with_reducible repeat (first | refine blk_drewN ?_ _ | refine blk_drew ?_ | refine blk_alloc ?_ _)); refine blk_put (cs := #[.int .i64 a0_0, .int .i64 a0_1, .int .i64 a0_2, .int .i64 a0_3, .slice A0_4 l0_4.length c0_4]) ?_ 1 _ rfl; (with_reducible repeat (first | refine blk_drewN ?_ _ | refine blk_drew ?_ | refine blk_alloc ?_ _)); refine blk_put (cs := #[.int .i64 a0_0, .int .i64 a0_1, .int .i64 a0_2, .int .i64 a0_3, .slice none 0 0]) ?_ 4 _ rfl; (with_reducible repeat (first | refine blk_drewN ?_ _ | refine blk_drew ?_ | refine blk_alloc ?_ _)); refine blk_put (cs := #[.int .i64 a0_0, .int .i64 a0_1, .int .i64 a0_2, .int .i64 0, .slice none 0 0]) ?_ 3 _ rfl; (with_reducible repeat (first | refine blk_drewN ?_ _ | refine blk_drew ?_ | refine blk_alloc ?_ _)); refine blk_put (cs := #[.int .i64 a0_0, .int .i64 a0_1, .int .i64 0, .int .i64 0, .slice none 0 0]) ?_ 2 _ rfl; (with_reducible repeat (first | refine blk_drewN ?_ _ | refine blk_drew ?_ | refine blk_alloc ?_ _)); refine blk_put (cs := #[.int .i64 a0_0, .int .i64 0, .int .i64 0, .int .i64 0, .slice none 0 0]) ?_ 1 _ rfl; (with_reducible repeat (first | refine blk_drewN ?_ _ | refine blk_drew ?_ | refine blk_alloc ?_ _)); refine blk_put (cs := #[.int .i64 0, .int .i64 0, .int .i64 0, .int .i64 0, .slice none 0 0]) ?_ 0 _ rfl; (with_reducible repeat (first | refine blk_drewN ?_ _ | refine blk_drew ?_ | refine blk_alloc ?_ _)); exact BK303.out⟩, ⟨by repeat (first | (with_reducible first | exact HB.out | apply below_alloc | apply pw_below_drewN | apply below_drew1 | refine below_set ?_ GE291.out | refine below_set ?_ GE303.out) | exact HB.out)⟩⟩
      ·
       rw [if_neg c37] at H
       have c37b0 : (a0_0 == 6) = false := beq_eq_false_iff_ne.mpr c37
       have c37b1 : (a0_0 != 6) = true := bne_iff_ne.mpr c37
       by_cases c40 : a0_0 = 8
       ·
        rw [if_pos c40] at H
        have c40b0 : (a0_0 == 8) = true := beq_iff_eq.mpr c40
        have c40b1 : (a0_0 != 8) = false := bne_eq_false_iff_eq.mpr c40
        clear c40
        have H' := Aside0.mk H
        clear H
        have hnb41 := NB303_291.out
        have hnc41 := NB291_303.out
        have hcz42_0 : w30.cell? ⟨gb303, 0, none⟩ = some (.int .i64 0) := (blk_cell BK303.out 0).trans rfl
        have hcz42_1 : w30.cell? ⟨gb303, 1, none⟩ = some (.int .i64 0) := (blk_cell BK303.out 1).trans rfl
        have hcz42_2 : w30.cell? ⟨gb303, 2, none⟩ = some (.int .i64 0) := (blk_cell BK303.out 2).trans rfl
        have hcz42_3 : w30.cell? ⟨gb303, 3, none⟩ = some (.int .i64 0) := (blk_cell BK303.out 3).trans rfl
        have hcz42_4 : w30.cell? ⟨gb303, 4, none⟩ = some (.slice none 0 0) := (blk_cell BK303.out 4).trans rfl
        have hfz42_0 := blk_frozen BK303.out 0
        have hfz42_1 := blk_frozen BK303.out 1
        have hfz42_2 := blk_frozen BK303.out 2
        have hfz42_3 := blk_frozen BK303.out 3
        have hfz42_4 := blk_frozen BK303.out 4
        go_wp2
        go_meet
        case rel => exact ⟨_, (wrap64 (1 + (wrap64 (Int.tmod (IntKind.u64.wrap (a1)) 100)))), (a0_3), H', ⟨by have := HJ2.out; first | omega | exact Nat.le_refl _⟩, ⟨by (with_reducible repeat (first | apply Kd.R_alloc | apply Kd.R_drewN | apply Kd.R_drew)); exact Kd.R_mono (Kd.R_far (p := ⟨gb303, 1, none⟩) (Kd.R_far (p := ⟨gb303, 4, none⟩) (Kd.R_far (p := ⟨gb303, 3, none⟩) (Kd.R_far (p := ⟨gb303, 2, none⟩) (Kd.R_far (p := ⟨gb303, 1, none⟩) (Kd.R_far (p := ⟨gb303, 0, none⟩) (Kd.R_types HO302.out BK303.out (by decide)) (fun _ hk => hk.2) (.int .i64 a0_0)) (fun _ hk => hk.2) (.int .i64 a0_1)) (fun _ hk => hk.2) (.int .i64 a0_2)) (fun _ hk => hk.2) (.int .i64 a0_3)) (fun _ hk => hk.2) (.slice A0_4 l0_4.length c0_4)) (fun _ hk => hk.2) (.int .i64 (wrap64 (1 + (wrap64 (Int.tmod (IntKind.u64.wrap (a1)) 100)))))) (fun _ hk => hk.1.1)⟩, ⟨by (with_reducible repeat (first | apply Kd.V_alloc | apply Kd.V_drewN | apply Kd.V_drew)); exact Kd.V_mono (Kd.V_far (p := ⟨gb303, 1, none⟩) (Kd.V_far (p := ⟨gb303, 4, none⟩) (Kd.V_far (p := ⟨gb303, 3, none⟩) (Kd.V_far (p := ⟨gb303, 2, none⟩) (Kd.V_far (p := ⟨gb303, 1, none⟩) (Kd.V_far (p := ⟨gb303, 0, none⟩) (Kd.V_mono HO_292004.out (fun k_ hk => (⟨hk, hk.2⟩ : _ ∧ k_ ≠ gb303))) (fun _ hk => hk.2) (.int .i64 a0_0)) (fun _ hk => hk.2) (.int .i64 a0_1)) (fun _ hk => hk.2) (.int .i64 a0_2)) (fun _ hk => hk.2) (.int .i64 a0_3)) (fun _ hk => hk.2) (.slice A0_4 l0_4.length c0_4)) (fun _ hk => hk.2) (.int .i64 (wrap64 (1 + (wrap64 (Int.tmod (IntKind.u64.wrap (a1)) 100)))))) (fun _ hk => ⟨hk.1.1.1.1.1, ⟨hk.1.1.2, ⟨hk.1.1.1.1.2, hk.1.2⟩⟩⟩)⟩, ⟨by (with_reducible repeat (first | apply Kd.V_alloc | apply Kd.V_drewN | apply Kd.V_drew)); exact Kd.V_mono (Kd.V_far (p := ⟨gb303, 1, none⟩) (Kd.V_far (p := ⟨gb303, 4, none⟩) (Kd.V_far (p := ⟨gb303, 3, none⟩) (Kd.V_far (p := ⟨gb303, 2, none⟩) (Kd.V_far (p := ⟨gb303, 1, none⟩) (Kd.V_far (p := ⟨gb303, 0, none⟩) (Kd.V_mono HO_292004.out (fun k_ hk => (⟨hk, hk.2⟩ : _ ∧ k_ ≠ gb303))) (fun _ hk => hk.2) (.int .i64 a0_0)) (fun _ hk => hk.2) (.int .i64 a0_1)) (fun _ hk => hk.2) (.int .i64 a0_2)) (fun _ hk => hk.2) (.int .i64 a0_3)) (fun _ hk => hk.2) (.slice A0_4 l0_4.length c0_4)) (fun _ hk => hk.2) (.int .i64 (wrap64 (1 + (wrap64 (Int.tmod (IntKind.u64.wrap (a1)) 100)))))) (fun _ hk => ⟨hk.1.1.1.1.1, ⟨hk.1.1.2, ⟨hk.1.1.1.1.2, hk.1.2⟩⟩⟩)⟩, ⟨by (with_reducible repeat (first | refine blk_drewN ?_ _ | refine blk_drew ?_ | refine blk_alloc ?_ _)); refine blk_far ?_ NB291_303.out _; (with_reducible repeat (first | refine blk_drewN ?_ _ | refine blk_drew ?_ | refine blk_alloc ?_ _)); refine blk_far ?_ NB291_303.out _; (with_reducible repeat (first | refine blk_drewN ?_ _ | refine blk_drew ?_ | refine blk_alloc ?_ _)); refine blk_far ?_ NB291_303.out _; (with_reducible repeat (first | refine blk_drewN ?_ _ | refine blk_drew ?_ | refine blk_alloc ?_ _)); refine blk_far ?_ NB291_303.out _; (with_reducible repeat (first | refine blk_drewN ?_ _ | refine blk_drew ?_ | refine blk_alloc ?_ _)); refine blk_far ?_ NB291_303.out _; (with_reducible repeat (first | refine blk_drewN ?_ _ | refine blk_drew ?_ | refine blk_alloc ?_ _)); refine blk_far ?_ NB291_303.out _; (with_reducible repeat (first | refine blk_drewN ?_ _ | refine blk_drew ?_ | refine blk_alloc ?_ _)); exact BK291.out⟩, ⟨by (with_reducible repeat (first | refine blk_drewN ?_ _ | refine blk_drew ?_ | refine blk_alloc ?_ _)); refine blk_put (cs := #[.int .i64 a0_0, .int .i64 a0_1, .int .i64 a0_2, .int .i64 a0_3, .slice A0_4 l0_4.length c0_4]) ?_ 1 _ rfl; (with_reducible repeat (first | refine blk_drewN ?_ _ | refine blk_drew ?_ | refine blk_alloc ?_ _)); refine blk_put (cs := #[.int .i64 a0_0, .int .i64 a0_1, .int .i64 a0_2, .int .i64 a0_3, .slice none 0 0]) ?_ 4 _ rfl; (with_reducible repeat (first | refine blk_drewN ?_ _ | refine blk_drew ?_ | refine blk_alloc ?_ _)); refine blk_put (cs := #[.int .i64 a0_0, .int .i64 a0_1, .int .i64 a0_2, .int .i64 0, .slice none 0 0]) ?_ 3 _ rfl; (with_reducible repeat (first | refine blk_drewN ?_ _ | refine blk_drew ?_ | refine blk_alloc ?_ _)); refine blk_put (cs := #[.int .i64 a0_0, .int .i64 a0_1, .int .i64 0, .int .i64 0, .slice none 0 0]) ?_ 2 _ rfl; (with_reducible repeat (first | refine blk_drewN ?_ _ | refine blk_drew ?_ | refine blk_alloc ?_ _)); refine blk_put (cs := #[.int .i64 a0_0, .int .i64 0, .int .i64 0, .int .i64 0, .slice none 0 0]) ?_ 1 _ rfl; (with_reducible repeat (first | refine blk_drewN ?_ _ | refine blk_drew ?_ | refine blk_alloc ?_ _)); refine blk_put (cs := #[.int .i64 0, .int .i64 0, .int .i64 0, .int .i64 0, .slice none 0 0]) ?_ 0 _ rfl; (with_reducible repeat (first | refine blk_drewN ?_ _ | refine blk_drew ?_ | refine blk_alloc ?_ _)); exact BK303.out⟩, ⟨by repeat (first | (with_reducible first | exact HB.out | apply below_alloc | apply pw_below_drewN | apply below_drew1 | refine below_set ?_ GE291.out | refine below_set ?_ GE303.out) | exact HB.out)⟩⟩
       ·
        rw [if_neg c40] at H
        have c40b0 : (a0_0 == 8) = false := beq_eq_false_iff_ne.mpr c40
        have c40b1 : (a0_0 != 8) = true := bne_iff_ne.mpr c40
        by_cases c43 : a0_0 = 7
        ·
         rw [if_pos c43] at H
         have c43b0 : (a0_0 == 7) = true := beq_iff_eq.mpr c43
         have c43b1 : (a0_0 != 7) = false := bne_eq_false_iff_eq.mpr c43
         clear c43
         have H' := Aside0.mk H
         clear H
         have hnb44 := NB303_291.out
         have hnc44 := NB291_303.out
         have hcz45_0 : w30.cell? ⟨gb303, 0, none⟩ = some (.int .i64 0) := (blk_cell BK303.out 0).trans rfl
         have hcz45_1 : w30.cell? ⟨gb303, 1, none⟩ = some (.int .i64 0) := (blk_cell BK303.out 1).trans rfl
         have hcz45_2 : w30.cell? ⟨gb303, 2, none⟩ = some (.int .i64 0) := (blk_cell BK303.out 2).trans rfl
         have hcz45_3 : w30.cell? ⟨gb303, 3, none⟩ = some (.int .i64 0) := (blk_cell BK303.out 3).trans rfl
         have hcz45_4 : w30.cell? ⟨gb303, 4, none⟩ = some (.slice none 0 0) := (blk_cell BK303.out 4).trans rfl
         have hfz45_0 := blk_frozen BK303.out 0
         have hfz45_1 := blk_frozen BK303.out 1
         have hfz45_2 := blk_frozen BK303.out 2
         have hfz45_3 := blk_frozen BK303.out 3
         have hfz45_4 := blk_frozen BK303.out 4
         go_wp2
         go_meet
         case rel => exact ⟨_, (wrap64 (1 + (wrap64 (Int.tmod (IntKind.u64.wrap (a1)) 100)))), (a0_3), H', ⟨by have := HJ2.out; first | omega | exact Nat.le_refl _⟩, ⟨by (with_reducible repeat (first | apply Kd.R_alloc | apply Kd.R_drewN | apply Kd.R_drew)); exact Kd.R_mono (Kd.R_far (p := ⟨gb303, 1, none⟩) (Kd.R_far (p := ⟨gb303, 4, none⟩) (Kd.R_far (p := ⟨gb303, 3, none⟩) (Kd.R_far (p := ⟨gb303, 2, none⟩) (Kd.R_far (p := ⟨gb303, 1, none⟩) (Kd.R_far (p := ⟨gb303, 0, none⟩) (Kd.R_types HO302.out BK303.out (by decide)) (fun _ hk => hk.2) (.int .i64 a0_0)) (fun _ hk => hk.2) (.int .i64 a0_1)) (fun _ hk => hk.2) (.int .i64 a0_2)) (fun _ hk => hk.2) (.int .i64 a0_3)) (fun _ hk => hk.2) (.slice A0_4 l0_4.length c0_4)) (fun _ hk => hk.2) (.int .i64 (wrap64 (1 + (wrap64 (Int.tmod (IntKind.u64.wrap (a1)) 100)))))) (fun _ hk => hk.1.1)⟩, ⟨by (with_reducible repeat (first | apply Kd.V_alloc | apply Kd.V_drewN | apply Kd.V_drew)); exact Kd.V_mono (Kd.V_far (p := ⟨gb303, 1, none⟩) (Kd.V_far (p := ⟨gb303, 4, none⟩) (Kd.V_far (p := ⟨gb303, 3, none⟩) (Kd.V_far (p := ⟨gb303, 2, none⟩) (Kd.V_far (p := ⟨gb303, 1, none⟩) (Kd.V_far (p := ⟨gb303, 0, none⟩) (Kd.V_mono HO_292004.out (fun k_ hk => (⟨hk, hk.2⟩ : _ ∧ k_ ≠ gb303))) (fun _ hk => hk.2) (.int .i64 a0_0)) (fun _ hk => hk.2) (.int .i64 a0_1)) (fun _ hk => hk.2) (.int .i64 a0_2)) (fun _ hk => hk.2) (.int .i64 a0_3)) (fun _ hk => hk.2) (.slice A0_4 l0_4.length c0_4)) (fun _ hk => hk.2) (.int .i64 (wrap64 (1 + (wrap64 (Int.tmod (IntKind.u64.wrap (a1)) 100)))))) (fun _ hk => ⟨hk.1.1.1.1.1, ⟨hk.1.1.2, ⟨hk.1.1.1.1.2, hk.1.2⟩⟩⟩)⟩, ⟨by (with_reducible repeat (first | apply Kd.V_alloc | apply Kd.V_drewN | apply Kd.V_drew)); exact Kd.V_mono (Kd.V_far (p := ⟨gb303, 1, none⟩) (Kd.V_far (p := ⟨gb303, 4, none⟩) (Kd.V_far (p := ⟨gb303, 3, none⟩) (Kd.V_far (p := ⟨gb303, 2, none⟩) (Kd.V_far (p := ⟨gb303, 1, none⟩) (Kd.V_far (p := ⟨gb303, 0, none⟩) (Kd.V_mono HO_292004.out (fun k_ hk => (⟨hk, hk.2⟩ : _ ∧ k_ ≠ gb303))) (fun _ hk => hk.2) (.int .i64 a0_0)) (fun _ hk => hk.2) (.int .i64 a0_1)) (fun _ hk => hk.2) (.int .i64 a0_2)) (fun _ hk => hk.2) (.int .i64 a0_3)) (fun _ hk => hk.2) (.slice A0_4 l0_4.length c0_4)) (fun _ hk => hk.2) (.int .i64 (wrap64 (1 + (wrap64 (Int.tmod (IntKind.u64.wrap (a1)) 100)))))) (fun _ hk => ⟨hk.1.1.1.1.1, ⟨hk.1.1.2, ⟨hk.1.1.1.1.2, hk.1.2⟩⟩⟩)⟩, ⟨by (with_reducible repeat (first | refine blk_drewN ?_ _ | refine blk_drew ?_ | refine blk_alloc ?_ _)); refine blk_far ?_ NB291_303.out _; (with_reducible repeat (first | refine blk_drewN ?_ _ | refine blk_drew ?_ | refine blk_alloc ?_ _)); refine blk_far ?_ NB291_303.out _; (with_reducible repeat (first | refine blk_drewN ?_ _ | refine blk_drew ?_ | refine blk_alloc ?_ _)); refine blk_far ?_ NB291_303.out _; (with_reducible repeat (first | refine blk_drewN ?_ _ | refine blk_drew ?_ | refine blk_alloc ?_ _)); refine blk_far ?_ NB291_303.out _; (with_reducible repeat (first | refine blk_drewN ?_ _ | refine blk_drew ?_ | refine blk_alloc ?_ _)); refine blk_far ?_ NB291_303.out _; (with_reducible repeat (first | refine blk_drewN ?_ _ | refine blk_drew ?_ | refine blk_alloc ?_ _)); refine blk_far ?_ NB291_303.out _; (with_reducible repeat (first | refine blk_drewN ?_ _ | refine blk_drew ?_ | refine blk_alloc ?_ _)); exact BK291.out⟩, ⟨by (with_reducible repeat (first | refine blk_drewN ?_ _ | refine blk_drew ?_ | refine blk_alloc ?_ _)); refine blk_put (cs := #[.int .i64 a0_0, .int .i64 a0_1, .int .i64 a0_2, .int .i64 a0_3, .slice A0_4 l0_4.length c0_4]) ?_ 1 _ rfl; (with_reducible repeat (first | refine blk_drewN ?_ _ | refine blk_drew ?_ | refine blk_alloc ?_ _)); refine blk_put (cs := #[.int .i64 a0_0, .int .i64 a0_1, .int .i64 a0_2, .int .i64 a0_3, .slice none 0 0]) ?_ 4 _ rfl; (with_reducible repeat (first | refine blk_drewN ?_ _ | refine blk_drew ?_ | refine blk_alloc ?_ _)); refine blk_put (cs := #[.int .i64 a0_0, .int .i64 a0_1, .int .i64 a0_2, .int .i64 0, .slice none 0 0]) ?_ 3 _ rfl; (with_reducible repeat (first | refine blk_drewN ?_ _ | refine blk_drew ?_ | refine blk_alloc ?_ _)); refine blk_put (cs := #[.int .i64 a0_0, .int .i64 a0_1, .int .i64 0, .int .i64 0, .slice none 0 0]) ?_ 2 _ rfl; (with_reducible repeat (first | refine blk_drewN ?_ _ | refine blk_drew ?_ | refine blk_alloc ?_ _)); refine blk_put (cs := #[.int .i64 a0_0, .int .i64 0, .int .i64 0, .int .i64 0, .slice none 0 0]) ?_ 1 _ rfl; (with_reducible repeat (first | refine blk_drewN ?_ _ | refine blk_drew ?_ | refine blk_alloc ?_ _)); refine blk_put (cs := #[.int .i64 0, .int .i64 0, .int .i64 0, .int .i64 0, .slice none 0 0]) ?_ 0 _ rfl; (with_reducible repeat (first | refine blk_drewN ?_ _ | refine blk_drew ?_ | refine blk_alloc ?_ _)); exact BK303.out⟩, ⟨by repeat (first | (with_reducible first | exact HB.out | apply below_alloc | apply pw_below_drewN | apply below_drew1 | refine below_set ?_ GE291.out | refine below_set ?_ GE303.out) | exact HB.out)⟩⟩
        ·
         rw [if_neg c43] at H
         have c43b0 : (a0_0 == 7) = false := beq_eq_false_iff_ne.mpr c43
         have c43b1 : (a0_0 != 7) = true := bne_iff_ne.mpr c43
         have H' := Aside0.mk H
         clear H
         have hnb46 := NB303_291.out
         have hnc46 := NB291_303.out
         have hcz47_0 : w30.cell? ⟨gb303, 0, none⟩ = some (.int .i64 0) := (blk_cell BK303.out 0).trans rfl
         have hcz47_1 : w30.cell? ⟨gb303, 1, none⟩ = some (.int .i64 0) := (blk_cell BK303.out 1).trans rfl
         have hcz47_2 : w30.cell? ⟨gb303, 2, none⟩ = some (.int .i64 0) := (blk_cell BK303.out 2).trans rfl
         have hcz47_3 : w30.cell? ⟨gb303, 3, none⟩ = some (.int .i64 0) := (blk_cell BK303.out 3).trans rfl
         have hcz47_4 : w30.cell? ⟨gb303, 4, none⟩ = some (.slice none 0 0) := (blk_cell BK303.out 4).trans rfl
         have hfz47_0 := blk_frozen BK303.out 0
         have hfz47_1 := blk_frozen BK303.out 1
         have hfz47_2 := blk_frozen BK303.out 2
         have hfz47_3 := blk_frozen BK303.out 3
         have hfz47_4 := blk_frozen BK303.out 4
         go_wp2
         go_meet
         case rel => exact ⟨_, (a0_1), (wrap64 (1 + (wrap64 (Int.tmod (IntKind.u64.wrap (a1)) 100)))), H', ⟨by have := HJ2.out; first | omega | exact Nat.le_refl _⟩, ⟨by (with_reducible repeat (first | apply Kd.R_alloc | apply Kd.R_drewN | apply Kd.R_drew)); exact Kd.R_mono (Kd.R_far (p := ⟨gb303, 3, none⟩) (Kd.R_far (p := ⟨gb303, 4, none⟩) (Kd.R_far (p := ⟨gb303, 3, none⟩) (Kd.R_far (p := ⟨gb303, 2, none⟩) (Kd.R_far (p := ⟨gb303, 1, none⟩) (Kd.R_far (p := ⟨gb303, 0, none⟩) (Kd.R_types HO302.out BK303.out (by decide)) (fun _ hk => hk.2) (.int .i64 a0_0)) (fun _ hk => hk.2) (.int .i64 a0_1)) (fun _ hk => hk.2) (.int .i64 a0_2)) (fun _ hk => hk.2) (.int .i64 a0_3)) (fun _ hk => hk.2) (.slice A0_4 l0_4.length c0_4)) (fun _ hk => hk.2) (.int .i64 (wrap64 (1 + (wrap64 (Int.tmod (IntKind.u64.wrap (a1)) 100)))))) (fun _ hk => hk.1.1)⟩, ⟨by (with_reducible repeat (first | apply Kd.V_alloc | apply Kd.V_drewN | apply Kd.V_drew)); exact Kd.V_mono (Kd.V_far (p := ⟨gb303, 3, none⟩) (Kd.V_far (p := ⟨gb303, 4, none⟩) (Kd.V_far (p := ⟨gb303, 3, none⟩) (Kd.V_far (p := ⟨gb303, 2, none⟩) (Kd.V_far (p := ⟨gb303, 1, none⟩) (Kd.V_far (p := ⟨gb303, 0, none⟩) (Kd.V_mono HO_292004.out (fun k_ hk => (⟨hk, hk.2⟩ : _ ∧ k_ ≠ gb303))) (fun _ hk => hk.2) (.int .i64 a0_0)) (fun _ hk => hk.2) (.int .i64 a0_1)) (fun _ hk => hk.2) (.int .i64 a0_2)) (fun _ hk => hk.2) (.int .i64 a0_3)) (fun _ hk => hk.2) (.slice A0_4 l0_4.length c0_4)) (fun _ hk => hk.2) (.int .i64 (wrap64 (1 + (wrap64 (Int.tmod (IntKind.u64.wrap (a1)) 100)))))) (fun _ hk => ⟨hk.1.1.1.1.1, ⟨hk.1.1.2, ⟨hk.1.1.1.1.2, hk.1.2⟩⟩⟩)⟩, ⟨by (with_reducible repeat (first | apply Kd.V_alloc | apply Kd.V_drewN | apply Kd.V_drew)); exact Kd.V_mono (Kd.V_far (p := ⟨gb303, 3, none⟩) (Kd.V_far (p := ⟨gb303, 4, none⟩) (Kd.V_far (p := ⟨gb303, 3, none⟩) (Kd.V_far (p := ⟨gb303, 2, none⟩) (Kd.V_far (p := ⟨gb303, 1, none⟩) (Kd.V_far (p := ⟨gb303, 0, none⟩) (Kd.V_mono HO_292004.out (fun k_ hk => (⟨hk, hk.2⟩ : _ ∧ k_ ≠ gb303))) (fun _ hk => hk.2) (.int .i64 a0_0)) (fun _ hk => hk.2) (.int .i64 a0_1)) (fun _ hk => hk.2) (.int .i64 a0_2)) (fun _ hk => hk.2) (.int .i64 a0_3)) (fun _ hk => hk.2) (.slice A0_4 l0_4.length c0_4)) (fun _ hk => hk.2) (.int .i64 (wrap64 (1 + (wrap64 (Int.tmod (IntKind.u64.wrap (a1)) 100)))))) (fun _ hk => ⟨hk.1.1.1.1.1, ⟨hk.1.1.2, ⟨hk.1.1.1.1.2, hk.1.2⟩⟩⟩)⟩, ⟨by (with_reducible repeat (first | refine blk_drewN ?_ _ | refine blk_drew ?_ | refine blk_alloc ?_ _)); refine blk_far ?_ NB291_303.out _; (with_reducible repeat (first | refine blk_drewN ?_ _ | refine blk_drew ?_ | refine blk_alloc ?_ _)); refine blk_far ?_ NB291_303.out _; (with_reducible repeat (first | refine blk_drewN ?_ _ | refine blk_drew ?_ | refine blk_alloc ?_ _)); refine blk_far ?_ NB291_303.out _; (with_reducible repeat (first | refine blk_drewN ?_ _ | refine blk_drew ?_ | refine blk_alloc ?_ _)); refine blk_far ?_ NB291_303.out _; (with_reducible repeat (first | refine blk_drewN ?_ _ | refine blk_drew ?_ | refine blk_alloc ?_ _)); refine blk_far ?_ NB291_303.out _; (with_reducible repeat (first | refine blk_drewN ?_ _ | refine blk_drew ?_ | refine blk_alloc ?_ _)); refine blk_far ?_ NB291_303.out _; (with_reducible repeat (first | refine blk_drewN ?_ _ | refine blk_drew ?_ | refine blk_alloc ?_ _)); exact BK291.out⟩, ⟨by (with_reducible repeat (first | refine blk_drewN ?_ _ | refine blk_drew ?_ | refine blk_alloc ?_ _)); refine blk_put (cs := #[.int .i64 a0_0, .int .i64 a0_1, .int .i64 a0_2, .int .i64 a0_3, .slice A0_4 l0_4.length c0_4]) ?_ 3 _ rfl; (with_reducible repeat (first | refine blk_drewN ?_ _ | refine blk_drew ?_ | refine blk_alloc ?_ _)); refine blk_put (cs := #[.int .i64 a0_0, .int .i64 a0_1, .int .i64 a0_2, .int .i64 a0_3, .slice none 0 0]) ?_ 4 _ rfl; (with_reducible repeat (first | refine blk_drewN ?_ _ | refine blk_drew ?_ | refine blk_alloc ?_ _)); refine blk_put (cs := #[.int .i64 a0_0, .int .i64 a0_1, .int .i64 a0_2, .int .i64 0, .slice none 0 0]) ?_ 3 _ rfl; (with_reducible repeat (first | refine blk_drewN ?_ _ | refine blk_drew ?_ | refine blk_alloc ?_ _)); refine blk_put (cs := #[.int .i64 a0_0, .int .i64 a0_1, .int .i64 0, .int .i64 0, .slice none 0 0]) ?_ 2 _ rfl; (with_reducible repeat (first | refine blk_drewN ?_ _ | refine blk_drew ?_ | refine blk_alloc ?_ _)); refine blk_put (cs := #[.int .i64 a0_0, .int .i64 0, .int .i64 0, .int .i64 0, .slice none 0 0]) ?_ 1 _ rfl; (with_reducible repeat (first | refine blk_drewN ?_ _ | refine blk_drew ?_ | refine blk_alloc ?_ _)); refine blk_put (cs := #[.int .i64 0, .int .i64 0, .int .i64 0, .int .i64 0, .slice none 0 0]) ?_ 0 _ rfl; (with_reducible repeat (first | refine blk_drewN ?_ _ | refine blk_drew ?_ | refine blk_alloc ?_ _)); exact BK303.out⟩, ⟨by repeat (first | (with_reducible first | exact HB.out | apply below_alloc | apply pw_below_drewN | apply below_drew1 | refine below_set ?_ GE291.out | refine below_set ?_ GE303.out) | exact HB.out)⟩⟩
    case rest =>
     clear HC23
     try clear c1
     try clear p2
     try clear c3
     try clear c4
     try clear c5
     try clear c5b0
     try clear c5b1
     try clear c6
     try clear p6
     try clear c10
     try clear c13
     try clear c13b0
     try clear c13b1
     try clear c13b2
     try clear c14
     try clear c15
     try clear c16
     try clear c31
     try clear c34
     try clear c34b0
     try clear c34b1
     try clear c35
     try clear c37
     try clear c37b0
     try clear c37b1
     try clear c38
     try clear c40
     try clear c40b0
     try clear c40b1
     try clear c41
     try clear c43
     try clear c43b0
     try clear c43b1
     try clear c44
     try clear c46
     try clear hcz24_0
     try clear hcz24_1
     try clear hcz24_2
     try clear hcz24_3
     try clear hcz24_4
     try clear hcz29_0
     try clear hcz29_1
     try clear hcz29_2
     try clear hcz29_3
     try clear hcz29_4
     try clear hcz32_0
     try clear hcz32_1
     try clear hcz32_2
     try clear hcz32_3
     try clear hcz32_4
     try clear hcz33_0
     try clear hcz33_1
     try clear hcz33_2
     try clear hcz33_3
     try clear hcz33_4
     try clear hcz36_0
     try clear hcz36_1
     try clear hcz36_2
     try clear hcz36_3
     try clear hcz36_4
     try clear hcz39_0
     try clear hcz39_1
     try clear hcz39_2
     try clear hcz39_3
     try clear hcz39_4
     try clear hcz42_0
     try clear hcz42_1
     try clear hcz42_2
     try clear hcz42_3
     try clear hcz42_4
     try clear hcz45_0
     try clear hcz45_1
     try clear hcz45_2
     try clear hcz45_3
     try clear hcz45_4
     try clear hcz47_0
     try clear hcz47_1
     try clear hcz47_2
     try clear hcz47_3
     try clear hcz47_4
     try clear hcz6_0
     try clear hcz6_1
     try clear hcz6_2
     try clear hcz6_3
     try clear hcz6_4
     try clear hcz8_0
     try clear hcz8_1
     try clear hcz8_2
     try clear hcz8_3
     try clear hcz8_4
     try clear hfz24_0
     try clear hfz24_1
     try clear hfz24_2
     try clear hfz24_3
     try clear hfz24_4
     try clear hfz29_0
     try clear hfz29_1
     try clear hfz29_2
     try clear hfz29_3
     try clear hfz29_4
     try clear hfz32_0
     try clear hfz32_1
     try clear hfz32_2
     try clear hfz32_3
     try clear hfz32_4
     try clear hfz33_0
     try clear hfz33_1
     try clear hfz33_2
     try clear hfz33_3
     try clear hfz33_4
     try clear hfz36_0
     try clear hfz36_1
     try clear hfz36_2
     try clear hfz36_3
     try clear hfz36_4
     try clear hfz39_0
     try clear hfz39_1
     try clear hfz39_2
     try clear hfz39_3
     try clear hfz39_4
     try clear hfz42_0
     try clear hfz42_1
     try clear hfz42_2
     try clear hfz42_3
     try clear hfz42_4
     try clear hfz45_0
     try clear hfz45_1
     try clear hfz45_2
     try clear hfz45_3
     try clear hfz45_4
     try clear hfz47_0
     try clear hfz47_1
     try clear hfz47_2
     try clear hfz47_3
     try clear hfz47_4
     try clear hfz6_0
     try clear hfz6_1
     try clear hfz6_2
     try clear hfz6_3
     try clear hfz6_4
     try clear hfz8_0
     try clear hfz8_1
     try clear hfz8_2
     try clear hfz8_3
     try clear hfz8_4
     try clear p2
     obtain ⟨kq, x304001_22, x304003_22, HA, HJ22, HO_5, HO_292004, HO_304004, BK291, BK303, HB⟩ := hcut
     cases kq with
     | zero => exact absurd HA.out (by simp [darninglaw23_CodeEach.j1])
     | succ kj22 =>
      have H := HA.out
      clear HA
      simp only [darninglaw23_CodeEach.j1] at H
      obtain ⟨y304, hy304⟩ : ∃ y_ : List (S26), y_ = (([(⟨a0_0, x304001_22, a0_2, x304003_22, l0_4⟩ : S26)] : List (S26))) := ⟨_, rfl⟩
      replace H : ((code_Encode.f kj22 y304).bind fun bt307 => (if t300 = true then (if (t299.length : Int) = (wrap64 (4 + (l0_4.length : Int))) then (if bt307.2 = true then (some false) else ((code_May.f kj22 a0_0 x304001_22 a0_2 x304003_22 l0_4).bind fun t311 => (if t311 = true then (some false) else ((darninglaw23_awake.f kj22).bind fun t312 => (some t312))))) else (some false)) else (some false))) = some r := by first | (rw [hy304]; with_reducible exact H) | (have H2_ := (Option.bind_some _ _).symm.trans H; rw [hy304]; with_reducible exact H2_) | (have H2_ := (Option.bind_some _ _).symm.trans H; with_reducible exact H2_) | with_reducible exact H | (rw [hy304]; exact H) | exact H
      have Ny304 := Aside0.mk hy304
      clear hy304
      replace H := Option.bind_eq_some_iff.mp H
      obtain ⟨⟨t307, t308⟩, A480, H⟩ := H
      replace H : (if t300 = true then (if (t299.length : Int) = (wrap64 (4 + (l0_4.length : Int))) then (if t308 = true then (some false) else ((code_May.f kj22 a0_0 x304001_22 a0_2 x304003_22 l0_4).bind fun t311 => (if t311 = true then (some false) else ((darninglaw23_awake.f kj22).bind fun t312 => (some t312))))) else (some false)) else (some false)) = some r := H
      have A48 := Aside0.mk A480
      clear A480
      by_cases c49 : t300 = true
      ·
       subst c49
       have H1 : (if (t299.length : Int) = (wrap64 (4 + (l0_4.length : Int))) then (if t308 = true then (some false) else ((code_May.f kj22 a0_0 x304001_22 a0_2 x304003_22 l0_4).bind fun t311 => (if t311 = true then (some false) else ((darninglaw23_awake.f kj22).bind fun t312 => (some t312))))) else (some false)) = some r := by rw [if_pos rfl] at H; exact H
       clear H
       have H := H1
       clear H1
       by_cases c50 : (t299.length : Int) = (wrap64 (4 + (l0_4.length : Int)))
       ·
        rw [if_pos c50] at H
        have c50b0 : ((t299.length : Int) == (wrap64 (4 + (l0_4.length : Int)))) = true := beq_iff_eq.mpr c50
        have c50b1 : ((t299.length : Int) != (wrap64 (4 + (l0_4.length : Int)))) = false := bne_eq_false_iff_eq.mpr c50
        clear c50
        by_cases c51 : t308 = true
        ·
         subst c51
         have H1 : (some false) = some r := by rw [if_pos rfl] at H; exact H
         clear H
         have H := H1
         clear H1
         obtain rfl := Option.some.inj H
         have hnb52 := NB303_291.out
         have hnc52 := NB291_303.out
         have hcz53_0 : wc.cell? ⟨gb303, 0, none⟩ = some (.int .i64 a0_0) := (blk_cell BK303.out 0).trans rfl
         have hcz53_1 : wc.cell? ⟨gb303, 1, none⟩ = some (.int .i64 x304001_22) := (blk_cell BK303.out 1).trans rfl
         have hcz53_2 : wc.cell? ⟨gb303, 2, none⟩ = some (.int .i64 a0_2) := (blk_cell BK303.out 2).trans rfl
         have hcz53_3 : wc.cell? ⟨gb303, 3, none⟩ = some (.int .i64 x304003_22) := (blk_cell BK303.out 3).trans rfl
         have hcz53_4 : wc.cell? ⟨gb303, 4, none⟩ = some (.slice A0_4 l0_4.length c0_4) := (blk_cell BK303.out 4).trans rfl
         have hfz53_0 := blk_frozen BK303.out 0
         have hfz53_1 := blk_frozen BK303.out 1
         have hfz53_2 := blk_frozen BK303.out 2
         have hfz53_3 := blk_frozen BK303.out 3
         have hfz53_4 := blk_frozen BK303.out 4
         go_wp2_with (first | ((with_reducible refine gate_dst (N := 55) rfl ?_); (try (refine gate_guard (by rfl) ?_; dsimp only)); refine Kd.N_lit k26 _ 26 ?hg (N' := 55) ?hd (xs := ([(⟨a0_0, x304001_22, a0_2, x304003_22, l0_4⟩ : S26)] : List (S26))) (inner := [.int .i64 a0_0, .int .i64 x304001_22, .int .i64 a0_2, .int .i64 x304003_22, .slice A0_4 l0_4.length c0_4]) (ok := (fun k_ => (P0_4_ k_ ∨ w.heap.size ≤ k_) ∧ some k_ ≠ (v301 : Value).ownBlock ∧ k_ ≠ gb291 ∧ k_ ≠ gb303)) (okp := (fun k_ => (P0_4_ k_ ∨ w.heap.size ≤ k_) ∧ some k_ ≠ (v301 : Value).ownBlock ∧ k_ ≠ gb291 ∧ k_ ≠ gb303)) ?hr ?hp (fun _ hk => hk) ((show ∀ k_, wc.heap.size ≤ k_ → (fun k_ => (P0_4_ k_ ∨ w.heap.size ≤ k_) ∧ some k_ ≠ (v301 : Value).ownBlock ∧ k_ ≠ gb291 ∧ k_ ≠ gb303) k_ from fun k_ hk => ⟨(.inr (Nat.le_trans (below_size (by repeat (first | (with_reducible first | exact HB.out | apply below_alloc | apply pw_below_drewN | apply below_drew1 | refine below_set ?_ GE291.out | refine below_set ?_ GE303.out) | exact HB.out))) hk)), Kd.fresh' (Kd.R_lt (by (with_reducible repeat (first | apply Kd.R_alloc | apply Kd.R_drewN | apply Kd.R_drew)); exact HO_5.out)) k_ hk, Kd.freshB (g := gb291) (o := .cells #[.int .i64 a0_0, .int .i64 a0_1, .int .i64 a0_2, .int .i64 a0_3, .slice A0_4 l0_4.length c0_4] 26 (0, 0)) (by (with_reducible repeat (first | refine blk_drewN ?_ _ | refine blk_drew ?_ | refine blk_alloc ?_ _)); exact BK291.out) k_ hk, Kd.freshB (g := gb303) (o := .cells #[.int .i64 a0_0, .int .i64 x304001_22, .int .i64 a0_2, .int .i64 x304003_22, .slice A0_4 l0_4.length c0_4] 26 (0, 0)) (by (with_reducible repeat (first | refine blk_drewN ?_ _ | refine blk_drew ?_ | refine blk_alloc ?_ _)); exact BK303.out) k_ hk⟩) _ (Nat.le_refl _)) (Below.refl _ _) (Nat.le_refl _) (by simp) ?_; (case hd => rfl); (case hg => rfl); (case hr => first | (go_simp; done) | (go_simp; rfl)); (case hp => exact (Reps.c5 (show Kd.FK k26 _ _ (⟨a0_0, x304001_22, a0_2, x304003_22, l0_4⟩ : S26) [.int .i64 a0_0, .int .i64 x304001_22, .int .i64 a0_2, .int .i64 x304003_22, .slice A0_4 l0_4.length c0_4] from (k26_mkF _ _ (⟨a0_0, x304001_22, a0_2, x304003_22, l0_4⟩ : S26) (Kd.V_reads' (Kd.V_mono (ok' := (fun k_ => (P0_4_ k_ ∨ w.heap.size ≤ k_) ∧ some k_ ≠ (v301 : Value).ownBlock ∧ k_ ≠ gb291 ∧ k_ ≠ gb303)) (HO_304004.out) (fun k_ hk => ⟨hk.1, ⟨hk.2.1, ⟨hk.2.2.1, hk.2.2.2⟩⟩⟩))).2.1 (Kd.V_F (Kd.V_mono (ok' := (fun k_ => (P0_4_ k_ ∨ w.heap.size ≤ k_) ∧ some k_ ≠ (v301 : Value).ownBlock ∧ k_ ≠ gb291 ∧ k_ ≠ gb303)) (HO_304004.out) (fun k_ hk => ⟨hk.1, ⟨hk.2.1, ⟨hk.2.2.1, hk.2.2.2⟩⟩⟩))))) (Reps.none _ _))); intro v305 w54 ho55 hb hg_ hnew_; clear hg_ hnew_; (first | rw [← Ny304.out] at ho55 | (simp only [Int.reduceToNat] at ho55; rw [← Ny304.out] at ho55)); have n0_ := Aside0.mk (Kd.R_below (by (with_reducible repeat (first | apply Kd.R_alloc | apply Kd.R_drewN | apply Kd.R_drew)); exact HO_5.out) hb); have n1_ := Aside0.mk (Kd.V_elder' (by (with_reducible repeat (first | apply Kd.V_alloc | apply Kd.V_drewN | apply Kd.V_drew)); exact HO_292004.out) (Kd.N_base ho55) hb); have n2_ := Aside0.mk (Kd.V_elder' (by (with_reducible repeat (first | apply Kd.V_alloc | apply Kd.V_drewN | apply Kd.V_drew)); exact HO_304004.out) (Kd.N_base ho55) hb); have n3_ := Aside0.mk (Kd.N_lower ho55 (below_size (by repeat (first | (with_reducible first | exact HB.out | apply below_alloc | apply pw_below_drewN | apply below_drew1 | refine below_set ?_ GE291.out | refine below_set ?_ GE303.out) | exact HB.out)))); have n4_ := Aside0.mk (blk_below (g := gb291) (o := .cells #[.int .i64 a0_0, .int .i64 a0_1, .int .i64 a0_2, .int .i64 a0_3, .slice A0_4 l0_4.length c0_4] 26 (0, 0)) (by (with_reducible repeat (first | refine blk_drewN ?_ _ | refine blk_drew ?_ | refine blk_alloc ?_ _)); exact BK291.out) hb); have n5_ := Aside0.mk (blk_below (g := gb303) (o := .cells #[.int .i64 a0_0, .int .i64 x304001_22, .int .i64 a0_2, .int .i64 x304003_22, .slice A0_4 l0_4.length c0_4] 26 (0, 0)) (by (with_reducible repeat (first | refine blk_drewN ?_ _ | refine blk_drew ?_ | refine blk_alloc ?_ _)); exact BK303.out) hb); have n6_ := Aside0.mk (below_step (by repeat (first | (with_reducible first | exact HB.out | apply below_alloc | apply pw_below_drewN | apply below_drew1 | refine below_set ?_ GE291.out | refine below_set ?_ GE303.out) | exact HB.out)) hb); clear HO_5; clear HO_292004; clear HO_304004; clear BK291; clear BK303; clear HB; have HO_5 := n0_; have HO_292004 := n1_; have HO_304004 := n2_; have HO306 := n3_; have BK291 := n4_; have BK303 := n5_; have HB := n6_; clear n0_ n1_ n2_ n3_ n4_ n5_ n6_; clear hb ho55; obtain ⟨Ao56, co56, eo56⟩ := Kd.N_slice HO306.out; subst eo56) | ((with_reducible refine gate_callee (f := 16) rfl ?_); refine goesL_ (some 56) rfl rfl Try.func16 (by kernel_rfl) rfl #[.slice Ao56 y304.length co56] rfl (by (try simp only [List.map_toArray, List.map_cons, List.map_nil]); first | done | rfl | (simp only [List.length_drop, List.length_take]; rfl)) ?_; (with_reducible refine (code_Encode.calls kj22 _ _ y304 t307 true _ ?side1 ?side2 A48.out).mono ?_); (case side1 => repeat (first | exact (Kd.N_reads' HO306.out).2.2 | (with_reducible refine Kd.C_alloc ?_ _) | (with_reducible refine Kd.C_drewN ?_ _) | (with_reducible refine Kd.C_drew ?_))); (case side2 => exact (Kd.N_reads' HO306.out).2.1); rintro e w57 ⟨v309, rfl, ho0, hb⟩; refine ⟨_, rfl, ?_⟩; have n0_ := Aside0.mk (Kd.R_elder' (by (with_reducible repeat (first | apply Kd.R_alloc | apply Kd.R_drewN | apply Kd.R_drew)); exact HO_5.out) (Kd.R_base ho0) hb); have n1_ := Aside0.mk (Kd.V_elder' (by (with_reducible repeat (first | apply Kd.V_alloc | apply Kd.V_drewN | apply Kd.V_drew)); exact HO_292004.out) (Kd.R_base ho0) hb); have n2_ := Aside0.mk (Kd.V_elder' (by (with_reducible repeat (first | apply Kd.V_alloc | apply Kd.V_drewN | apply Kd.V_drew)); exact HO_304004.out) (Kd.R_base ho0) hb); have n3_ := Aside0.mk (Kd.N_elder' (by (with_reducible repeat (first | apply Kd.N_alloc | apply Kd.N_drewN | apply Kd.N_drew)); exact HO306.out) (Kd.R_base ho0) hb); have n4_ := Aside0.mk (Kd.R_lower (Kd.R_new' (Kd.R_newM (M := fun k_ => (w.heap.size ≤ k_)) ho0 (below_size (by repeat (first | (with_reducible first | exact HB.out | apply below_alloc | apply pw_below_drewN | apply below_drew1 | refine below_set ?_ GE291.out | refine below_set ?_ GE303.out) | exact HB.out))) (fun k_ h_ => h_)) (Kd.R_lt (by (with_reducible repeat (first | apply Kd.R_alloc | apply Kd.R_drewN | apply Kd.R_drew)); exact HO_5.out))) (below_size (by repeat (first | (with_reducible first | exact HB.out | apply below_alloc | apply pw_below_drewN | apply below_drew1 | refine below_set ?_ GE291.out | refine below_set ?_ GE303.out) | exact HB.out)))); have n5_ := Aside0.mk (blk_below (g := gb291) (o := .cells #[.int .i64 a0_0, .int .i64 a0_1, .int .i64 a0_2, .int .i64 a0_3, .slice A0_4 l0_4.length c0_4] 26 (0, 0)) (by (with_reducible repeat (first | refine blk_drewN ?_ _ | refine blk_drew ?_ | refine blk_alloc ?_ _)); exact BK291.out) hb); have n6_ := Aside0.mk (blk_below (g := gb303) (o := .cells #[.int .i64 a0_0, .int .i64 x304001_22, .int .i64 a0_2, .int .i64 x304003_22, .slice A0_4 l0_4.length c0_4] 26 (0, 0)) (by (with_reducible repeat (first | refine blk_drewN ?_ _ | refine blk_drew ?_ | refine blk_alloc ?_ _)); exact BK303.out) hb); have n7_ := Aside0.mk (below_step (by repeat (first | (with_reducible first | exact HB.out | apply below_alloc | apply pw_below_drewN | apply below_drew1 | refine below_set ?_ GE291.out | refine below_set ?_ GE303.out) | exact HB.out)) hb); clear HO_5; clear HO_292004; clear HO_304004; clear HO306; clear BK291; clear BK303; clear HB; have HO_5 := n0_; have HO_292004 := n1_; have HO_304004 := n2_; have HO306 := n3_; have HO310 := n4_; have BK291 := n5_; have BK303 := n6_; have HB := n7_; clear n0_ n1_ n2_ n3_ n4_ n5_ n6_ n7_; (try clear hb); (try clear hb2); (try clear hk); (try clear hi); (try clear ho0); obtain ⟨Ao58, co58, eo58⟩ := Kd.R_slice HO_5.out; subst eo58; have hcz59_0 : w57.cell? ⟨gb291, 0, none⟩ = some (.int .i64 a0_0) := (blk_cell BK291.out 0).trans rfl; have hcz59_1 : w57.cell? ⟨gb291, 1, none⟩ = some (.int .i64 a0_1) := (blk_cell BK291.out 1).trans rfl; have hcz59_2 : w57.cell? ⟨gb291, 2, none⟩ = some (.int .i64 a0_2) := (blk_cell BK291.out 2).trans rfl; have hcz59_3 : w57.cell? ⟨gb291, 3, none⟩ = some (.int .i64 a0_3) := (blk_cell BK291.out 3).trans rfl; have hcz59_4 : w57.cell? ⟨gb291, 4, none⟩ = some (.slice A0_4 l0_4.length c0_4) := (blk_cell BK291.out 4).trans rfl; have hfz59_0 := blk_frozen BK291.out 0; have hfz59_1 := blk_frozen BK291.out 1; have hfz59_2 := blk_frozen BK291.out 2; have hfz59_3 := blk_frozen BK291.out 3; have hfz59_4 := blk_frozen BK291.out 4))
         go_ret
         exact ⟨by first | rfl | (simp [errW_none, errW_some] <;> rfl) | (simp [*, errW_none, errW_some] <;> rfl), by repeat (first | (with_reducible first | exact HB.out | apply below_alloc | apply pw_below_drewN | apply below_drew1 | refine below_set ?_ GE291.out | refine below_set ?_ GE303.out) | exact HB.out)⟩
        ·
         replace c51 := Bool.eq_false_iff.mpr c51
         subst c51
         have H1 : ((code_May.f kj22 a0_0 x304001_22 a0_2 x304003_22 l0_4).bind fun t311 => (if t311 = true then (some false) else ((darninglaw23_awake.f kj22).bind fun t312 => (some t312)))) = some r := by rw [if_neg (show ¬ (false = true) by decide)] at H; exact H
         clear H
         have H := H1
         clear H1
         replace H := Option.bind_eq_some_iff.mp H
         obtain ⟨t311, A600, H⟩ := H
         replace H : (if t311 = true then (some false) else ((darninglaw23_awake.f kj22).bind fun t312 => (some t312))) = some r := H
         have A60 := Aside0.mk A600
         clear A600
         by_cases c61 : t311 = true
         ·
          subst c61
          have H1 : (some false) = some r := by rw [if_pos rfl] at H; exact H
          clear H
          have H := H1
          clear H1
          obtain rfl := Option.some.inj H
          have hnb62 := NB303_291.out
          have hnc62 := NB291_303.out
          have hcz63_0 : wc.cell? ⟨gb303, 0, none⟩ = some (.int .i64 a0_0) := (blk_cell BK303.out 0).trans rfl
          have hcz63_1 : wc.cell? ⟨gb303, 1, none⟩ = some (.int .i64 x304001_22) := (blk_cell BK303.out 1).trans rfl
          have hcz63_2 : wc.cell? ⟨gb303, 2, none⟩ = some (.int .i64 a0_2) := (blk_cell BK303.out 2).trans rfl
          have hcz63_3 : wc.cell? ⟨gb303, 3, none⟩ = some (.int .i64 x304003_22) := (blk_cell BK303.out 3).trans rfl
          have hcz63_4 : wc.cell? ⟨gb303, 4, none⟩ = some (.slice A0_4 l0_4.length c0_4) := (blk_cell BK303.out 4).trans rfl
          have hfz63_0 := blk_frozen BK303.out 0
          have hfz63_1 := blk_frozen BK303.out 1
          have hfz63_2 := blk_frozen BK303.out 2
          have hfz63_3 := blk_frozen BK303.out 3
          have hfz63_4 := blk_frozen BK303.out 4
          go_wp2_with (first | ((with_reducible refine gate_dst (N := 55) rfl ?_); (try (refine gate_guard (by rfl) ?_; dsimp only)); refine Kd.N_lit k26 _ 26 ?hg (N' := 55) ?hd (xs := ([(⟨a0_0, x304001_22, a0_2, x304003_22, l0_4⟩ : S26)] : List (S26))) (inner := [.int .i64 a0_0, .int .i64 x304001_22, .int .i64 a0_2, .int .i64 x304003_22, .slice A0_4 l0_4.length c0_4]) (ok := (fun k_ => (P0_4_ k_ ∨ w.heap.size ≤ k_) ∧ some k_ ≠ (v301 : Value).ownBlock ∧ k_ ≠ gb291 ∧ k_ ≠ gb303)) (okp := (fun k_ => (P0_4_ k_ ∨ w.heap.size ≤ k_) ∧ some k_ ≠ (v301 : Value).ownBlock ∧ k_ ≠ gb291 ∧ k_ ≠ gb303)) ?hr ?hp (fun _ hk => hk) ((show ∀ k_, wc.heap.size ≤ k_ → (fun k_ => (P0_4_ k_ ∨ w.heap.size ≤ k_) ∧ some k_ ≠ (v301 : Value).ownBlock ∧ k_ ≠ gb291 ∧ k_ ≠ gb303) k_ from fun k_ hk => ⟨(.inr (Nat.le_trans (below_size (by repeat (first | (with_reducible first | exact HB.out | apply below_alloc | apply pw_below_drewN | apply below_drew1 | refine below_set ?_ GE291.out | refine below_set ?_ GE303.out) | exact HB.out))) hk)), Kd.fresh' (Kd.R_lt (by (with_reducible repeat (first | apply Kd.R_alloc | apply Kd.R_drewN | apply Kd.R_drew)); exact HO_5.out)) k_ hk, Kd.freshB (g := gb291) (o := .cells #[.int .i64 a0_0, .int .i64 a0_1, .int .i64 a0_2, .int .i64 a0_3, .slice A0_4 l0_4.length c0_4] 26 (0, 0)) (by (with_reducible repeat (first | refine blk_drewN ?_ _ | refine blk_drew ?_ | refine blk_alloc ?_ _)); exact BK291.out) k_ hk, Kd.freshB (g := gb303) (o := .cells #[.int .i64 a0_0, .int .i64 x304001_22, .int .i64 a0_2, .int .i64 x304003_22, .slice A0_4 l0_4.length c0_4] 26 (0, 0)) (by (with_reducible repeat (first | refine blk_drewN ?_ _ | refine blk_drew ?_ | refine blk_alloc ?_ _)); exact BK303.out) k_ hk⟩) _ (Nat.le_refl _)) (Below.refl _ _) (Nat.le_refl _) (by simp) ?_; (case hd => rfl); (case hg => rfl); (case hr => first | (go_simp; done) | (go_simp; rfl)); (case hp => exact (Reps.c5 (show Kd.FK k26 _ _ (⟨a0_0, x304001_22, a0_2, x304003_22, l0_4⟩ : S26) [.int .i64 a0_0, .int .i64 x304001_22, .int .i64 a0_2, .int .i64 x304003_22, .slice A0_4 l0_4.length c0_4] from (k26_mkF _ _ (⟨a0_0, x304001_22, a0_2, x304003_22, l0_4⟩ : S26) (Kd.V_reads' (Kd.V_mono (ok' := (fun k_ => (P0_4_ k_ ∨ w.heap.size ≤ k_) ∧ some k_ ≠ (v301 : Value).ownBlock ∧ k_ ≠ gb291 ∧ k_ ≠ gb303)) (HO_304004.out) (fun k_ hk => ⟨hk.1, ⟨hk.2.1, ⟨hk.2.2.1, hk.2.2.2⟩⟩⟩))).2.1 (Kd.V_F (Kd.V_mono (ok' := (fun k_ => (P0_4_ k_ ∨ w.heap.size ≤ k_) ∧ some k_ ≠ (v301 : Value).ownBlock ∧ k_ ≠ gb291 ∧ k_ ≠ gb303)) (HO_304004.out) (fun k_ hk => ⟨hk.1, ⟨hk.2.1, ⟨hk.2.2.1, hk.2.2.2⟩⟩⟩))))) (Reps.none _ _))); intro v305 w64 ho65 hb hg_ hnew_; clear hg_ hnew_; (first | rw [← Ny304.out] at ho65 | (simp only [Int.reduceToNat] at ho65; rw [← Ny304.out] at ho65)); have n0_ := Aside0.mk (Kd.R_below (by (with_reducible repeat (first | apply Kd.R_alloc | apply Kd.R_drewN | apply Kd.R_drew)); exact HO_5.out) hb); have n1_ := Aside0.mk (Kd.V_elder' (by (with_reducible repeat (first | apply Kd.V_alloc | apply Kd.V_drewN | apply Kd.V_drew)); exact HO_292004.out) (Kd.N_base ho65) hb); have n2_ := Aside0.mk (Kd.V_elder' (by (with_reducible repeat (first | apply Kd.V_alloc | apply Kd.V_drewN | apply Kd.V_drew)); exact HO_304004.out) (Kd.N_base ho65) hb); have n3_ := Aside0.mk (Kd.N_lower ho65 (below_size (by repeat (first | (with_reducible first | exact HB.out | apply below_alloc | apply pw_below_drewN | apply below_drew1 | refine below_set ?_ GE291.out | refine below_set ?_ GE303.out) | exact HB.out)))); have n4_ := Aside0.mk (blk_below (g := gb291) (o := .cells #[.int .i64 a0_0, .int .i64 a0_1, .int .i64 a0_2, .int .i64 a0_3, .slice A0_4 l0_4.length c0_4] 26 (0, 0)) (by (with_reducible repeat (first | refine blk_drewN ?_ _ | refine blk_drew ?_ | refine blk_alloc ?_ _)); exact BK291.out) hb); have n5_ := Aside0.mk (blk_below (g := gb303) (o := .cells #[.int .i64 a0_0, .int .i64 x304001_22, .int .i64 a0_2, .int .i64 x304003_22, .slice A0_4 l0_4.length c0_4] 26 (0, 0)) (by (with_reducible repeat (first | refine blk_drewN ?_ _ | refine blk_drew ?_ | refine blk_alloc ?_ _)); exact BK303.out) hb); have n6_ := Aside0.mk (below_step (by repeat (first | (with_reducible first | exact HB.out | apply below_alloc | apply pw_below_drewN | apply below_drew1 | refine below_set ?_ GE291.out | refine below_set ?_ GE303.out) | exact HB.out)) hb); clear HO_5; clear HO_292004; clear HO_304004; clear BK291; clear BK303; clear HB; have HO_5 := n0_; have HO_292004 := n1_; have HO_304004 := n2_; have HO306 := n3_; have BK291 := n4_; have BK303 := n5_; have HB := n6_; clear n0_ n1_ n2_ n3_ n4_ n5_ n6_; clear hb ho65; obtain ⟨Ao66, co66, eo66⟩ := Kd.N_slice HO306.out; subst eo66) | ((with_reducible refine gate_callee (f := 16) rfl ?_); refine goesL_ (some 56) rfl rfl Try.func16 (by kernel_rfl) rfl #[.slice Ao66 y304.length co66] rfl (by (try simp only [List.map_toArray, List.map_cons, List.map_nil]); first | done | rfl | (simp only [List.length_drop, List.length_take]; rfl)) ?_; (with_reducible refine (code_Encode.calls kj22 _ _ y304 t307 false _ ?side1 ?side2 A48.out).mono ?_); (case side1 => repeat (first | exact (Kd.N_reads' HO306.out).2.2 | (with_reducible refine Kd.C_alloc ?_ _) | (with_reducible refine Kd.C_drewN ?_ _) | (with_reducible refine Kd.C_drew ?_))); (case side2 => exact (Kd.N_reads' HO306.out).2.1); rintro e w67 ⟨v309, rfl, ho0, hb⟩; refine ⟨_, rfl, ?_⟩; have n0_ := Aside0.mk (Kd.R_elder' (by (with_reducible repeat (first | apply Kd.R_alloc | apply Kd.R_drewN | apply Kd.R_drew)); exact HO_5.out) (Kd.R_base ho0) hb); have n1_ := Aside0.mk (Kd.V_elder' (by (with_reducible repeat (first | apply Kd.V_alloc | apply Kd.V_drewN | apply Kd.V_drew)); exact HO_292004.out) (Kd.R_base ho0) hb); have n2_ := Aside0.mk (Kd.V_elder' (by (with_reducible repeat (first | apply Kd.V_alloc | apply Kd.V_drewN | apply Kd.V_drew)); exact HO_304004.out) (Kd.R_base ho0) hb); have n3_ := Aside0.mk (Kd.N_elder' (by (with_reducible repeat (first | apply Kd.N_alloc | apply Kd.N_drewN | apply Kd.N_drew)); exact HO306.out) (Kd.R_base ho0) hb); have n4_ := Aside0.mk (Kd.R_lower (Kd.R_new' (Kd.R_newM (M := fun k_ => (w.heap.size ≤ k_)) ho0 (below_size (by repeat (first | (with_reducible first | exact HB.out | apply below_alloc | apply pw_below_drewN | apply below_drew1 | refine below_set ?_ GE291.out | refine below_set ?_ GE303.out) | exact HB.out))) (fun k_ h_ => h_)) (Kd.R_lt (by (with_reducible repeat (first | apply Kd.R_alloc | apply Kd.R_drewN | apply Kd.R_drew)); exact HO_5.out))) (below_size (by repeat (first | (with_reducible first | exact HB.out | apply below_alloc | apply pw_below_drewN | apply below_drew1 | refine below_set ?_ GE291.out | refine below_set ?_ GE303.out) | exact HB.out)))); have n5_ := Aside0.mk (blk_below (g := gb291) (o := .cells #[.int .i64 a0_0, .int .i64 a0_1, .int .i64 a0_2, .int .i64 a0_3, .slice A0_4 l0_4.length c0_4] 26 (0, 0)) (by (with_reducible repeat (first | refine blk_drewN ?_ _ | refine blk_drew ?_ | refine blk_alloc ?_ _)); exact BK291.out) hb); have n6_ := Aside0.mk (blk_below (g := gb303) (o := .cells #[.int .i64 a0_0, .int .i64 x304001_22, .int .i64 a0_2, .int .i64 x304003_22, .slice A0_4 l0_4.length c0_4] 26 (0, 0)) (by (with_reducible repeat (first | refine blk_drewN ?_ _ | refine blk_drew ?_ | refine blk_alloc ?_ _)); exact BK303.out) hb); have n7_ := Aside0.mk (below_step (by repeat (first | (with_reducible first | exact HB.out | apply below_alloc | apply pw_below_drewN | apply below_drew1 | refine below_set ?_ GE291.out | refine below_set ?_ GE303.out) | exact HB.out)) hb); clear HO_5; clear HO_292004; clear HO_304004; clear HO306; clear BK291; clear BK303; clear HB; have HO_5 := n0_; have HO_292004 := n1_; have HO_304004 := n2_; have HO306 := n3_; have HO310 := n4_; have BK291 := n5_; have BK303 := n6_; have HB := n7_; clear n0_ n1_ n2_ n3_ n4_ n5_ n6_ n7_; (try clear hb); (try clear hb2); (try clear hk); (try clear hi); (try clear ho0); obtain ⟨Ao68, co68, eo68⟩ := Kd.R_slice HO_5.out; subst eo68; have hcz69_0 : w67.cell? ⟨gb291, 0, none⟩ = some (.int .i64 a0_0) := (blk_cell BK291.out 0).trans rfl; have hcz69_1 : w67.cell? ⟨gb291, 1, none⟩ = some (.int .i64 a0_1) := (blk_cell BK291.out 1).trans rfl; have hcz69_2 : w67.cell? ⟨gb291, 2, none⟩ = some (.int .i64 a0_2) := (blk_cell BK291.out 2).trans rfl; have hcz69_3 : w67.cell? ⟨gb291, 3, none⟩ = some (.int .i64 a0_3) := (blk_cell BK291.out 3).trans rfl; have hcz69_4 : w67.cell? ⟨gb291, 4, none⟩ = some (.slice A0_4 l0_4.length c0_4) := (blk_cell BK291.out 4).trans rfl; have hfz69_0 := blk_frozen BK291.out 0; have hfz69_1 := blk_frozen BK291.out 1; have hfz69_2 := blk_frozen BK291.out 2; have hfz69_3 := blk_frozen BK291.out 3; have hfz69_4 := blk_frozen BK291.out 4; have hcz70_0 : w67.cell? ⟨gb303, 0, none⟩ = some (.int .i64 a0_0) := (blk_cell BK303.out 0).trans rfl; have hcz70_1 : w67.cell? ⟨gb303, 1, none⟩ = some (.int .i64 x304001_22) := (blk_cell BK303.out 1).trans rfl; have hcz70_2 : w67.cell? ⟨gb303, 2, none⟩ = some (.int .i64 a0_2) := (blk_cell BK303.out 2).trans rfl; have hcz70_3 : w67.cell? ⟨gb303, 3, none⟩ = some (.int .i64 x304003_22) := (blk_cell BK303.out 3).trans rfl; have hcz70_4 : w67.cell? ⟨gb303, 4, none⟩ = some (.slice A0_4 l0_4.length c0_4) := (blk_cell BK303.out 4).trans rfl; have hfz70_0 := blk_frozen BK303.out 0; have hfz70_1 := blk_frozen BK303.out 1; have hfz70_2 := blk_frozen BK303.out 2; have hfz70_3 := blk_frozen BK303.out 3; have hfz70_4 := blk_frozen BK303.out 4) | (go_at_call 14; (with_reducible refine (code_May.calls kj22 a0_0 x304001_22 a0_2 x304003_22 _ _ l0_4 true _ ?side1 ?side2 A60.out).mono ?_); (case side1 => repeat (first | exact (Kd.V_reads' HO_304004.out).2.2 | (with_reducible refine Kd.C_alloc ?_ _) | (with_reducible refine Kd.C_drewN ?_ _) | (with_reducible refine Kd.C_drew ?_))); (case side2 => exact (Kd.V_reads' HO_304004.out).2.1); rintro e w71 ⟨rfl, hb⟩; have n0_ := Aside0.mk (Kd.R_below (by (with_reducible repeat (first | apply Kd.R_alloc | apply Kd.R_drewN | apply Kd.R_drew)); exact HO_5.out) hb); have n1_ := Aside0.mk (Kd.V_below (by (with_reducible repeat (first | apply Kd.V_alloc | apply Kd.V_drewN | apply Kd.V_drew)); exact HO_292004.out) hb); have n2_ := Aside0.mk (Kd.V_below (by (with_reducible repeat (first | apply Kd.V_alloc | apply Kd.V_drewN | apply Kd.V_drew)); exact HO_304004.out) hb); have n3_ := Aside0.mk (Kd.N_below (by (with_reducible repeat (first | apply Kd.N_alloc | apply Kd.N_drewN | apply Kd.N_drew)); exact HO306.out) hb); have n4_ := Aside0.mk (Kd.R_below (by (with_reducible repeat (first | apply Kd.R_alloc | apply Kd.R_drewN | apply Kd.R_drew)); exact HO310.out) hb); have n5_ := Aside0.mk (blk_below (g := gb291) (o := .cells #[.int .i64 a0_0, .int .i64 a0_1, .int .i64 a0_2, .int .i64 a0_3, .slice A0_4 l0_4.length c0_4] 26 (0, 0)) (by (with_reducible repeat (first | refine blk_drewN ?_ _ | refine blk_drew ?_ | refine blk_alloc ?_ _)); exact BK291.out) hb); have n6_ := Aside0.mk (blk_below (g := gb303) (o := .cells #[.int .i64 a0_0, .int .i64 x304001_22, .int .i64 a0_2, .int .i64 x304003_22, .slice A0_4 l0_4.length c0_4] 26 (0, 0)) (by (with_reducible repeat (first | refine blk_drewN ?_ _ | refine blk_drew ?_ | refine blk_alloc ?_ _)); exact BK303.out) hb); have n7_ := Aside0.mk (below_step (by repeat (first | (with_reducible first | exact HB.out | apply below_alloc | apply pw_below_drewN | apply below_drew1 | refine below_set ?_ GE291.out | refine below_set ?_ GE303.out) | exact HB.out)) hb); clear HO_5; clear HO_292004; clear HO_304004; clear HO306; clear HO310; clear BK291; clear BK303; clear HB; have HO_5 := n0_; have HO_292004 := n1_; have HO_304004 := n2_; have HO306 := n3_; have HO310 := n4_; have BK291 := n5_; have BK303 := n6_; have HB := n7_; clear n0_ n1_ n2_ n3_ n4_ n5_ n6_ n7_; (try clear hb); (try clear hb2); (try clear hk); (try clear hi)))
          go_ret
          exact ⟨by first | rfl | (simp [errW_none, errW_some] <;> rfl) | (simp [*, errW_none, errW_some] <;> rfl), by repeat (first | (with_reducible first | exact HB.out | apply below_alloc | apply pw_below_drewN | apply below_drew1 | refine below_set ?_ GE291.out | refine below_set ?_ GE303.out) | exact HB.out)⟩
         ·
          replace c61 := Bool.eq_false_iff.mpr c61
          subst c61
          have H1 : ((darninglaw23_awake.f kj22).bind fun t312 => (some t312)) = some r := by rw [if_neg (show ¬ (false = true) by decide)] at H; exact H
          clear H
          have H := H1
          clear H1
          replace H := Option.bind_eq_some_iff.mp H
          obtain ⟨t312, A720, H⟩ := H
          replace H : (some t312) = some r := H
          have A72 := Aside0.mk A720
          clear A720
          obtain rfl := Option.some.inj H
          have hnb73 := NB303_291.out
          have hnc73 := NB291_303.out
          have hcz74_0 : wc.cell? ⟨gb303, 0, none⟩ = some (.int .i64 a0_0) := (blk_cell BK303.out 0).trans rfl
          have hcz74_1 : wc.cell? ⟨gb303, 1, none⟩ = some (.int .i64 x304001_22) := (blk_cell BK303.out 1).trans rfl
          have hcz74_2 : wc.cell? ⟨gb303, 2, none⟩ = some (.int .i64 a0_2) := (blk_cell BK303.out 2).trans rfl
          have hcz74_3 : wc.cell? ⟨gb303, 3, none⟩ = some (.int .i64 x304003_22) := (blk_cell BK303.out 3).trans rfl
          have hcz74_4 : wc.cell? ⟨gb303, 4, none⟩ = some (.slice A0_4 l0_4.length c0_4) := (blk_cell BK303.out 4).trans rfl
          have hfz74_0 := blk_frozen BK303.out 0
          have hfz74_1 := blk_frozen BK303.out 1
          have hfz74_2 := blk_frozen BK303.out 2
          have hfz74_3 := blk_frozen BK303.out 3
          have hfz74_4 := blk_frozen BK303.out 4
          go_wp2_with (first | ((with_reducible refine gate_dst (N := 55) rfl ?_); (try (refine gate_guard (by rfl) ?_; dsimp only)); refine Kd.N_lit k26 _ 26 ?hg (N' := 55) ?hd (xs := ([(⟨a0_0, x304001_22, a0_2, x304003_22, l0_4⟩ : S26)] : List (S26))) (inner := [.int .i64 a0_0, .int .i64 x304001_22, .int .i64 a0_2, .int .i64 x304003_22, .slice A0_4 l0_4.length c0_4]) (ok := (fun k_ => (P0_4_ k_ ∨ w.heap.size ≤ k_) ∧ some k_ ≠ (v301 : Value).ownBlock ∧ k_ ≠ gb291 ∧ k_ ≠ gb303)) (okp := (fun k_ => (P0_4_ k_ ∨ w.heap.size ≤ k_) ∧ some k_ ≠ (v301 : Value).ownBlock ∧ k_ ≠ gb291 ∧ k_ ≠ gb303)) ?hr ?hp (fun _ hk => hk) ((show ∀ k_, wc.heap.size ≤ k_ → (fun k_ => (P0_4_ k_ ∨ w.heap.size ≤ k_) ∧ some k_ ≠ (v301 : Value).ownBlock ∧ k_ ≠ gb291 ∧ k_ ≠ gb303) k_ from fun k_ hk => ⟨(.inr (Nat.le_trans (below_size (by repeat (first | (with_reducible first | exact HB.out | apply below_alloc | apply pw_below_drewN | apply below_drew1 | refine below_set ?_ GE291.out | refine below_set ?_ GE303.out) | exact HB.out))) hk)), Kd.fresh' (Kd.R_lt (by (with_reducible repeat (first | apply Kd.R_alloc | apply Kd.R_drewN | apply Kd.R_drew)); exact HO_5.out)) k_ hk, Kd.freshB (g := gb291) (o := .cells #[.int .i64 a0_0, .int .i64 a0_1, .int .i64 a0_2, .int .i64 a0_3, .slice A0_4 l0_4.length c0_4] 26 (0, 0)) (by (with_reducible repeat (first | refine blk_drewN ?_ _ | refine blk_drew ?_ | refine blk_alloc ?_ _)); exact BK291.out) k_ hk, Kd.freshB (g := gb303) (o := .cells #[.int .i64 a0_0, .int .i64 x304001_22, .int .i64 a0_2, .int .i64 x304003_22, .slice A0_4 l0_4.length c0_4] 26 (0, 0)) (by (with_reducible repeat (first | refine blk_drewN ?_ _ | refine blk_drew ?_ | refine blk_alloc ?_ _)); exact BK303.out) k_ hk⟩) _ (Nat.le_refl _)) (Below.refl _ _) (Nat.le_refl _) (by simp) ?_; (case hd => rfl); (case hg => rfl); (case hr => first | (go_simp; done) | (go_simp; rfl)); (case hp => exact (Reps.c5 (show Kd.FK k26 _ _ (⟨a0_0, x304001_22, a0_2, x304003_22, l0_4⟩ : S26) [.int .i64 a0_0, .int .i64 x304001_22, .int .i64 a0_2, .int .i64 x304003_22, .slice A0_4 l0_4.length c0_4] from (k26_mkF _ _ (⟨a0_0, x304001_22, a0_2, x304003_22, l0_4⟩ : S26) (Kd.V_reads' (Kd.V_mono (ok' := (fun k_ => (P0_4_ k_ ∨ w.heap.size ≤ k_) ∧ some k_ ≠ (v301 : Value).ownBlock ∧ k_ ≠ gb291 ∧ k_ ≠ gb303)) (HO_304004.out) (fun k_ hk => ⟨hk.1, ⟨hk.2.1, ⟨hk.2.2.1, hk.2.2.2⟩⟩⟩))).2.1 (Kd.V_F (Kd.V_mono (ok' := (fun k_ => (P0_4_ k_ ∨ w.heap.size ≤ k_) ∧ some k_ ≠ (v301 : Value).ownBlock ∧ k_ ≠ gb291 ∧ k_ ≠ gb303)) (HO_304004.out) (fun k_ hk => ⟨hk.1, ⟨hk.2.1, ⟨hk.2.2.1, hk.2.2.2⟩⟩⟩))))) (Reps.none _ _))); intro v305 w75 ho76 hb hg_ hnew_; clear hg_ hnew_; (first | rw [← Ny304.out] at ho76 | (simp only [Int.reduceToNat] at ho76; rw [← Ny304.out] at ho76)); have n0_ := Aside0.mk (Kd.R_below (by (with_reducible repeat (first | apply Kd.R_alloc | apply Kd.R_drewN | apply Kd.R_drew)); exact HO_5.out) hb); have n1_ := Aside0.mk (Kd.V_elder' (by (with_reducible repeat (first | apply Kd.V_alloc | apply Kd.V_drewN | apply Kd.V_drew)); exact HO_292004.out) (Kd.N_base ho76) hb); have n2_ := Aside0.mk (Kd.V_elder' (by (with_reducible repeat (first | apply Kd.V_alloc | apply Kd.V_drewN | apply Kd.V_drew)); exact HO_304004.out) (Kd.N_base ho76) hb); have n3_ := Aside0.mk (Kd.N_lower ho76 (below_size (by repeat (first | (with_reducible first | exact HB.out | apply below_alloc | apply pw_below_drewN | apply below_drew1 | refine below_set ?_ GE291.out | refine below_set ?_ GE303.out) | exact HB.out)))); have n4_ := Aside0.mk (blk_below (g := gb291) (o := .cells #[.int .i64 a0_0, .int .i64 a0_1, .int .i64 a0_2, .int .i64 a0_3, .slice A0_4 l0_4.length c0_4] 26 (0, 0)) (by (with_reducible repeat (first | refine blk_drewN ?_ _ | refine blk_drew ?_ | refine blk_alloc ?_ _)); exact BK291.out) hb); have n5_ := Aside0.mk (blk_below (g := gb303) (o := .cells #[.int .i64 a0_0, .int .i64 x304001_22, .int .i64 a0_2, .int .i64 x304003_22, .slice A0_4 l0_4.length c0_4] 26 (0, 0)) (by (with_reducible repeat (first | refine blk_drewN ?_ _ | refine blk_drew ?_ | refine blk_alloc ?_ _)); exact BK303.out) hb); have n6_ := Aside0.mk (below_step (by repeat (first | (with_reducible first | exact HB.out | apply below_alloc | apply pw_below_drewN | apply below_drew1 | refine below_set ?_ GE291.out | refine below_set ?_ GE303.out) | exact HB.out)) hb); clear HO_5; clear HO_292004; clear HO_304004; clear BK291; clear BK303; clear HB; have HO_5 := n0_; have HO_292004 := n1_; have HO_304004 := n2_; have HO306 := n3_; have BK291 := n4_; have BK303 := n5_; have HB := n6_; clear n0_ n1_ n2_ n3_ n4_ n5_ n6_; clear hb ho76; obtain ⟨Ao77, co77, eo77⟩ := Kd.N_slice HO306.out; subst eo77) | ((with_reducible refine gate_callee (f := 16) rfl ?_); refine goesL_ (some 56) rfl rfl Try.func16 (by kernel_rfl) rfl #[.slice Ao77 y304.length co77] rfl (by (try simp only [List.map_toArray, List.map_cons, List.map_nil]); first | done | rfl | (simp only [List.length_drop, List.length_take]; rfl)) ?_; (with_reducible refine (code_Encode.calls kj22 _ _ y304 t307 false _ ?side1 ?side2 A48.out).mono ?_); (case side1 => repeat (first | exact (Kd.N_reads' HO306.out).2.2 | (with_reducible refine Kd.C_alloc ?_ _) | (with_reducible refine Kd.C_drewN ?_ _) | (with_reducible refine Kd.C_drew ?_))); (case side2 => exact (Kd.N_reads' HO306.out).2.1); rintro e w78 ⟨v309, rfl, ho0, hb⟩; refine ⟨_, rfl, ?_⟩; have n0_ := Aside0.mk (Kd.R_elder' (by (with_reducible repeat (first | apply Kd.R_alloc | apply Kd.R_drewN | apply Kd.R_drew)); exact HO_5.out) (Kd.R_base ho0) hb); have n1_ := Aside0.mk (Kd.V_elder' (by (with_reducible repeat (first | apply Kd.V_alloc | apply Kd.V_drewN | apply Kd.V_drew)); exact HO_292004.out) (Kd.R_base ho0) hb); have n2_ := Aside0.mk (Kd.V_elder' (by (with_reducible repeat (first | apply Kd.V_alloc | apply Kd.V_drewN | apply Kd.V_drew)); exact HO_304004.out) (Kd.R_base ho0) hb); have n3_ := Aside0.mk (Kd.N_elder' (by (with_reducible repeat (first | apply Kd.N_alloc | apply Kd.N_drewN | apply Kd.N_drew)); exact HO306.out) (Kd.R_base ho0) hb); have n4_ := Aside0.mk (Kd.R_lower (Kd.R_new' (Kd.R_newM (M := fun k_ => (w.heap.size ≤ k_)) ho0 (below_size (by repeat (first | (with_reducible first | exact HB.out | apply below_alloc | apply pw_below_drewN | apply below_drew1 | refine below_set ?_ GE291.out | refine below_set ?_ GE303.out) | exact HB.out))) (fun k_ h_ => h_)) (Kd.R_lt (by (with_reducible repeat (first | apply Kd.R_alloc | apply Kd.R_drewN | apply Kd.R_drew)); exact HO_5.out))) (below_size (by repeat (first | (with_reducible first | exact HB.out | apply below_alloc | apply pw_below_drewN | apply below_drew1 | refine below_set ?_ GE291.out | refine below_set ?_ GE303.out) | exact HB.out)))); have n5_ := Aside0.mk (blk_below (g := gb291) (o := .cells #[.int .i64 a0_0, .int .i64 a0_1, .int .i64 a0_2, .int .i64 a0_3, .slice A0_4 l0_4.length c0_4] 26 (0, 0)) (by (with_reducible repeat (first | refine blk_drewN ?_ _ | refine blk_drew ?_ | refine blk_alloc ?_ _)); exact BK291.out) hb); have n6_ := Aside0.mk (blk_below (g := gb303) (o := .cells #[.int .i64 a0_0, .int .i64 x304001_22, .int .i64 a0_2, .int .i64 x304003_22, .slice A0_4 l0_4.length c0_4] 26 (0, 0)) (by (with_reducible repeat (first | refine blk_drewN ?_ _ | refine blk_drew ?_ | refine blk_alloc ?_ _)); exact BK303.out) hb); have n7_ := Aside0.mk (below_step (by repeat (first | (with_reducible first | exact HB.out | apply below_alloc | apply pw_below_drewN | apply below_drew1 | refine below_set ?_ GE291.out | refine below_set ?_ GE303.out) | exact HB.out)) hb); clear HO_5; clear HO_292004; clear HO_304004; clear HO306; clear BK291; clear BK303; clear HB; have HO_5 := n0_; have HO_292004 := n1_; have HO_304004 := n2_; have HO306 := n3_; have HO310 := n4_; have BK291 := n5_; have BK303 := n6_; have HB := n7_; clear n0_ n1_ n2_ n3_ n4_ n5_ n6_ n7_; (try clear hb); (try clear hb2); (try clear hk); (try clear hi); (try clear ho0); obtain ⟨Ao79, co79, eo79⟩ := Kd.R_slice HO_5.out; subst eo79; have hcz80_0 : w78.cell? ⟨gb291, 0, none⟩ = some (.int .i64 a0_0) := (blk_cell BK291.out 0).trans rfl; have hcz80_1 : w78.cell? ⟨gb291, 1, none⟩ = some (.int .i64 a0_1) := (blk_cell BK291.out 1).trans rfl; have hcz80_2 : w78.cell? ⟨gb291, 2, none⟩ = some (.int .i64 a0_2) := (blk_cell BK291.out 2).trans rfl; have hcz80_3 : w78.cell? ⟨gb291, 3, none⟩ = some (.int .i64 a0_3) := (blk_cell BK291.out 3).trans rfl; have hcz80_4 : w78.cell? ⟨gb291, 4, none⟩ = some (.slice A0_4 l0_4.length c0_4) := (blk_cell BK291.out 4).trans rfl; have hfz80_0 := blk_frozen BK291.out 0; have hfz80_1 := blk_frozen BK291.out 1; have hfz80_2 := blk_frozen BK291.out 2; have hfz80_3 := blk_frozen BK291.out 3; have hfz80_4 := blk_frozen BK291.out 4; have hcz81_0 : w78.cell? ⟨gb303, 0, none⟩ = some (.int .i64 a0_0) := (blk_cell BK303.out 0).trans rfl; have hcz81_1 : w78.cell? ⟨gb303, 1, none⟩ = some (.int .i64 x304001_22) := (blk_cell BK303.out 1).trans rfl; have hcz81_2 : w78.cell? ⟨gb303, 2, none⟩ = some (.int .i64 a0_2) := (blk_cell BK303.out 2).trans rfl; have hcz81_3 : w78.cell? ⟨gb303, 3, none⟩ = some (.int .i64 x304003_22) := (blk_cell BK303.out 3).trans rfl; have hcz81_4 : w78.cell? ⟨gb303, 4, none⟩ = some (.slice A0_4 l0_4.length c0_4) := (blk_cell BK303.out 4).trans rfl; have hfz81_0 := blk_frozen BK303.out 0; have hfz81_1 := blk_frozen BK303.out 1; have hfz81_2 := blk_frozen BK303.out 2; have hfz81_3 := blk_frozen BK303.out 3; have hfz81_4 := blk_frozen BK303.out 4) | (go_at_call 14; (with_reducible refine (code_May.calls kj22 a0_0 x304001_22 a0_2 x304003_22 _ _ l0_4 false _ ?side1 ?side2 A60.out).mono ?_); (case side1 => repeat (first | exact (Kd.V_reads' HO_304004.out).2.2 | (with_reducible refine Kd.C_alloc ?_ _) | (with_reducible refine Kd.C_drewN ?_ _) | (with_reducible refine Kd.C_drew ?_))); (case side2 => exact (Kd.V_reads' HO_304004.out).2.1); rintro e w82 ⟨rfl, hb⟩; have n0_ := Aside0.mk (Kd.R_below (by (with_reducible repeat (first | apply Kd.R_alloc | apply Kd.R_drewN | apply Kd.R_drew)); exact HO_5.out) hb); have n1_ := Aside0.mk (Kd.V_below (by (with_reducible repeat (first | apply Kd.V_alloc | apply Kd.V_drewN | apply Kd.V_drew)); exact HO_292004.out) hb); have n2_ := Aside0.mk (Kd.V_below (by (with_reducible repeat (first | apply Kd.V_alloc | apply Kd.V_drewN | apply Kd.V_drew)); exact HO_304004.out) hb); have n3_ := Aside0.mk (Kd.N_below (by (with_reducible repeat (first | apply Kd.N_alloc | apply Kd.N_drewN | apply Kd.N_drew)); exact HO306.out) hb); have n4_ := Aside0.mk (Kd.R_below (by (with_reducible repeat (first | apply Kd.R_alloc | apply Kd.R_drewN | apply Kd.R_drew)); exact HO310.out) hb); have n5_ := Aside0.mk (blk_below (g := gb291) (o := .cells #[.int .i64 a0_0, .int .i64 a0_1, .int .i64 a0_2, .int .i64 a0_3, .slice A0_4 l0_4.length c0_4] 26 (0, 0)) (by (with_reducible repeat (first | refine blk_drewN ?_ _ | refine blk_drew ?_ | refine blk_alloc ?_ _)); exact BK291.out) hb); have n6_ := Aside0.mk (blk_below (g := gb303) (o := .cells #[.int .i64 a0_0, .int .i64 x304001_22, .int .i64 a0_2, .int .i64 x304003_22, .slice A0_4 l0_4.length c0_4] 26 (0, 0)) (by (with_reducible repeat (first | refine blk_drewN ?_ _ | refine blk_drew ?_ | refine blk_alloc ?_ _)); exact BK303.out) hb); have n7_ := Aside0.mk (below_step (by repeat (first | (with_reducible first | exact HB.out | apply below_alloc | apply pw_below_drewN | apply below_drew1 | refine below_set ?_ GE291.out | refine below_set ?_ GE303.out) | exact HB.out)) hb); clear HO_5; clear HO_292004; clear HO_304004; clear HO306; clear HO310; clear BK291; clear BK303; clear HB; have HO_5 := n0_; have HO_292004 := n1_; have HO_304004 := n2_; have HO306 := n3_; have HO310 := n4_; have BK291 := n5_; have BK303 := n6_; have HB := n7_; clear n0_ n1_ n2_ n3_ n4_ n5_ n6_ n7_; (try clear hb); (try clear hb2); (try clear hk); (try clear hi)) | (go_at_call 13; (with_reducible refine (darninglaw23_awake.calls kj22  t312 _ A72.out).mono ?_); rintro e w83 ⟨rfl, hb⟩; have n0_ := Aside0.mk (Kd.R_below (by (with_reducible repeat (first | apply Kd.R_alloc | apply Kd.R_drewN | apply Kd.R_drew)); exact HO_5.out) hb); have n1_ := Aside0.mk (Kd.V_below (by (with_reducible repeat (first | apply Kd.V_alloc | apply Kd.V_drewN | apply Kd.V_drew)); exact HO_292004.out) hb); have n2_ := Aside0.mk (Kd.V_below (by (with_reducible repeat (first | apply Kd.V_alloc | apply Kd.V_drewN | apply Kd.V_drew)); exact HO_304004.out) hb); have n3_ := Aside0.mk (Kd.N_below (by (with_reducible repeat (first | apply Kd.N_alloc | apply Kd.N_drewN | apply Kd.N_drew)); exact HO306.out) hb); have n4_ := Aside0.mk (Kd.R_below (by (with_reducible repeat (first | apply Kd.R_alloc | apply Kd.R_drewN | apply Kd.R_drew)); exact HO310.out) hb); have n5_ := Aside0.mk (blk_below (g := gb291) (o := .cells #[.int .i64 a0_0, .int .i64 a0_1, .int .i64 a0_2, .int .i64 a0_3, .slice A0_4 l0_4.length c0_4] 26 (0, 0)) (by (with_reducible repeat (first | refine blk_drewN ?_ _ | refine blk_drew ?_ | refine blk_alloc ?_ _)); exact BK291.out) hb); have n6_ := Aside0.mk (blk_below (g := gb303) (o := .cells #[.int .i64 a0_0, .int .i64 x304001_22, .int .i64 a0_2, .int .i64 x304003_22, .slice A0_4 l0_4.length c0_4] 26 (0, 0)) (by (with_reducible repeat (first | refine blk_drewN ?_ _ | refine blk_drew ?_ | refine blk_alloc ?_ _)); exact BK303.out) hb); have n7_ := Aside0.mk (below_step (by repeat (first | (with_reducible first | exact HB.out | apply below_alloc | apply pw_below_drewN | apply below_drew1 | refine below_set ?_ GE291.out | refine below_set ?_ GE303.out) | exact HB.out)) hb); clear HO_5; clear HO_292004; clear HO_304004; clear HO306; clear HO310; clear BK291; clear BK303; clear HB; have HO_5 := n0_; have HO_292004 := n1_; have HO_304004 := n2_; have HO306 := n3_; have HO310 := n4_; have BK291 := n5_; have BK303 := n6_; have HB := n7_; clear n0_ n1_ n2_ n3_ n4_ n5_ n6_ n7_; (try clear hb); (try clear hb2); (try clear hk); (try clear hi)))
          go_ret
          exact ⟨by first | rfl | (simp [errW_none, errW_some] <;> rfl) | (simp [*, errW_none, errW_some] <;> rfl), by repeat (first | (with_reducible first | exact HB.out | apply below_alloc | apply pw_below_drewN | apply below_drew1 | refine below_set ?_ GE291.out | refine below_set ?_ GE303.out) | exact HB.out)⟩
       ·
        rw [if_neg c50] at H
        have c50b0 : ((t299.length : Int) == (wrap64 (4 + (l0_4.length : Int)))) = false := beq_eq_false_iff_ne.mpr c50
        have c50b1 : ((t299.length : Int) != (wrap64 (4 + (l0_4.length : Int)))) = true := bne_iff_ne.mpr c50
        obtain rfl := Option.some.inj H
        have hnb84 := NB303_291.out
        have hnc84 := NB291_303.out
        have hcz85_0 : wc.cell? ⟨gb303, 0, none⟩ = some (.int .i64 a0_0) := (blk_cell BK303.out 0).trans rfl
        have hcz85_1 : wc.cell? ⟨gb303, 1, none⟩ = some (.int .i64 x304001_22) := (blk_cell BK303.out 1).trans rfl
        have hcz85_2 : wc.cell? ⟨gb303, 2, none⟩ = some (.int .i64 a0_2) := (blk_cell BK303.out 2).trans rfl
        have hcz85_3 : wc.cell? ⟨gb303, 3, none⟩ = some (.int .i64 x304003_22) := (blk_cell BK303.out 3).trans rfl
        have hcz85_4 : wc.cell? ⟨gb303, 4, none⟩ = some (.slice A0_4 l0_4.length c0_4) := (blk_cell BK303.out 4).trans rfl
        have hfz85_0 := blk_frozen BK303.out 0
        have hfz85_1 := blk_frozen BK303.out 1
        have hfz85_2 := blk_frozen BK303.out 2
        have hfz85_3 := blk_frozen BK303.out 3
        have hfz85_4 := blk_frozen BK303.out 4
        go_wp2_with (first | ((with_reducible refine gate_dst (N := 55) rfl ?_); (try (refine gate_guard (by rfl) ?_; dsimp only)); refine Kd.N_lit k26 _ 26 ?hg (N' := 55) ?hd (xs := ([(⟨a0_0, x304001_22, a0_2, x304003_22, l0_4⟩ : S26)] : List (S26))) (inner := [.int .i64 a0_0, .int .i64 x304001_22, .int .i64 a0_2, .int .i64 x304003_22, .slice A0_4 l0_4.length c0_4]) (ok := (fun k_ => (P0_4_ k_ ∨ w.heap.size ≤ k_) ∧ some k_ ≠ (v301 : Value).ownBlock ∧ k_ ≠ gb291 ∧ k_ ≠ gb303)) (okp := (fun k_ => (P0_4_ k_ ∨ w.heap.size ≤ k_) ∧ some k_ ≠ (v301 : Value).ownBlock ∧ k_ ≠ gb291 ∧ k_ ≠ gb303)) ?hr ?hp (fun _ hk => hk) ((show ∀ k_, wc.heap.size ≤ k_ → (fun k_ => (P0_4_ k_ ∨ w.heap.size ≤ k_) ∧ some k_ ≠ (v301 : Value).ownBlock ∧ k_ ≠ gb291 ∧ k_ ≠ gb303) k_ from fun k_ hk => ⟨(.inr (Nat.le_trans (below_size (by repeat (first | (with_reducible first | exact HB.out | apply below_alloc | apply pw_below_drewN | apply below_drew1 | refine below_set ?_ GE291.out | refine below_set ?_ GE303.out) | exact HB.out))) hk)), Kd.fresh' (Kd.R_lt (by (with_reducible repeat (first | apply Kd.R_alloc | apply Kd.R_drewN | apply Kd.R_drew)); exact HO_5.out)) k_ hk, Kd.freshB (g := gb291) (o := .cells #[.int .i64 a0_0, .int .i64 a0_1, .int .i64 a0_2, .int .i64 a0_3, .slice A0_4 l0_4.length c0_4] 26 (0, 0)) (by (with_reducible repeat (first | refine blk_drewN ?_ _ | refine blk_drew ?_ | refine blk_alloc ?_ _)); exact BK291.out) k_ hk, Kd.freshB (g := gb303) (o := .cells #[.int .i64 a0_0, .int .i64 x304001_22, .int .i64 a0_2, .int .i64 x304003_22, .slice A0_4 l0_4.length c0_4] 26 (0, 0)) (by (with_reducible repeat (first | refine blk_drewN ?_ _ | refine blk_drew ?_ | refine blk_alloc ?_ _)); exact BK303.out) k_ hk⟩) _ (Nat.le_refl _)) (Below.refl _ _) (Nat.le_refl _) (by simp) ?_; (case hd => rfl); (case hg => rfl); (case hr => first | (go_simp; done) | (go_simp; rfl)); (case hp => exact (Reps.c5 (show Kd.FK k26 _ _ (⟨a0_0, x304001_22, a0_2, x304003_22, l0_4⟩ : S26) [.int .i64 a0_0, .int .i64 x304001_22, .int .i64 a0_2, .int .i64 x304003_22, .slice A0_4 l0_4.length c0_4] from (k26_mkF _ _ (⟨a0_0, x304001_22, a0_2, x304003_22, l0_4⟩ : S26) (Kd.V_reads' (Kd.V_mono (ok' := (fun k_ => (P0_4_ k_ ∨ w.heap.size ≤ k_) ∧ some k_ ≠ (v301 : Value).ownBlock ∧ k_ ≠ gb291 ∧ k_ ≠ gb303)) (HO_304004.out) (fun k_ hk => ⟨hk.1, ⟨hk.2.1, ⟨hk.2.2.1, hk.2.2.2⟩⟩⟩))).2.1 (Kd.V_F (Kd.V_mono (ok' := (fun k_ => (P0_4_ k_ ∨ w.heap.size ≤ k_) ∧ some k_ ≠ (v301 : Value).ownBlock ∧ k_ ≠ gb291 ∧ k_ ≠ gb303)) (HO_304004.out) (fun k_ hk => ⟨hk.1, ⟨hk.2.1, ⟨hk.2.2.1, hk.2.2.2⟩⟩⟩))))) (Reps.none _ _))); intro v305 w86 ho87 hb hg_ hnew_; clear hg_ hnew_; (first | rw [← Ny304.out] at ho87 | (simp only [Int.reduceToNat] at ho87; rw [← Ny304.out] at ho87)); have n0_ := Aside0.mk (Kd.R_below (by (with_reducible repeat (first | apply Kd.R_alloc | apply Kd.R_drewN | apply Kd.R_drew)); exact HO_5.out) hb); have n1_ := Aside0.mk (Kd.V_elder' (by (with_reducible repeat (first | apply Kd.V_alloc | apply Kd.V_drewN | apply Kd.V_drew)); exact HO_292004.out) (Kd.N_base ho87) hb); have n2_ := Aside0.mk (Kd.V_elder' (by (with_reducible repeat (first | apply Kd.V_alloc | apply Kd.V_drewN | apply Kd.V_drew)); exact HO_304004.out) (Kd.N_base ho87) hb); have n3_ := Aside0.mk (Kd.N_lower ho87 (below_size (by repeat (first | (with_reducible first | exact HB.out | apply below_alloc | apply pw_below_drewN | apply below_drew1 | refine below_set ?_ GE291.out | refine below_set ?_ GE303.out) | exact HB.out)))); have n4_ := Aside0.mk (blk_below (g := gb291) (o := .cells #[.int .i64 a0_0, .int .i64 a0_1, .int .i64 a0_2, .int .i64 a0_3, .slice A0_4 l0_4.length c0_4] 26 (0, 0)) (by (with_reducible repeat (first | refine blk_drewN ?_ _ | refine blk_drew ?_ | refine blk_alloc ?_ _)); exact BK291.out) hb); have n5_ := Aside0.mk (blk_below (g := gb303) (o := .cells #[.int .i64 a0_0, .int .i64 x304001_22, .int .i64 a0_2, .int .i64 x304003_22, .slice A0_4 l0_4.length c0_4] 26 (0, 0)) (by (with_reducible repeat (first | refine blk_drewN ?_ _ | refine blk_drew ?_ | refine blk_alloc ?_ _)); exact BK303.out) hb); have n6_ := Aside0.mk (below_step (by repeat (first | (with_reducible first | exact HB.out | apply below_alloc | apply pw_below_drewN | apply below_drew1 | refine below_set ?_ GE291.out | refine below_set ?_ GE303.out) | exact HB.out)) hb); clear HO_5; clear HO_292004; clear HO_304004; clear BK291; clear BK303; clear HB; have HO_5 := n0_; have HO_292004 := n1_; have HO_304004 := n2_; have HO306 := n3_; have BK291 := n4_; have BK303 := n5_; have HB := n6_; clear n0_ n1_ n2_ n3_ n4_ n5_ n6_; clear hb ho87; obtain ⟨Ao88, co88, eo88⟩ := Kd.N_slice HO306.out; subst eo88) | ((with_reducible refine gate_callee (f := 16) rfl ?_); refine goesL_ (some 56) rfl rfl Try.func16 (by kernel_rfl) rfl #[.slice Ao88 y304.length co88] rfl (by (try simp only [List.map_toArray, List.map_cons, List.map_nil]); first | done | rfl | (simp only [List.length_drop, List.length_take]; rfl)) ?_; (with_reducible refine (code_Encode.calls kj22 _ _ y304 t307 t308 _ ?side1 ?side2 A48.out).mono ?_); (case side1 => repeat (first | exact (Kd.N_reads' HO306.out).2.2 | (with_reducible refine Kd.C_alloc ?_ _) | (with_reducible refine Kd.C_drewN ?_ _) | (with_reducible refine Kd.C_drew ?_))); (case side2 => exact (Kd.N_reads' HO306.out).2.1); rintro e w89 ⟨v309, rfl, ho0, hb⟩; refine ⟨_, rfl, ?_⟩; have n0_ := Aside0.mk (Kd.R_elder' (by (with_reducible repeat (first | apply Kd.R_alloc | apply Kd.R_drewN | apply Kd.R_drew)); exact HO_5.out) (Kd.R_base ho0) hb); have n1_ := Aside0.mk (Kd.V_elder' (by (with_reducible repeat (first | apply Kd.V_alloc | apply Kd.V_drewN | apply Kd.V_drew)); exact HO_292004.out) (Kd.R_base ho0) hb); have n2_ := Aside0.mk (Kd.V_elder' (by (with_reducible repeat (first | apply Kd.V_alloc | apply Kd.V_drewN | apply Kd.V_drew)); exact HO_304004.out) (Kd.R_base ho0) hb); have n3_ := Aside0.mk (Kd.N_elder' (by (with_reducible repeat (first | apply Kd.N_alloc | apply Kd.N_drewN | apply Kd.N_drew)); exact HO306.out) (Kd.R_base ho0) hb); have n4_ := Aside0.mk (Kd.R_lower (Kd.R_new' (Kd.R_newM (M := fun k_ => (w.heap.size ≤ k_)) ho0 (below_size (by repeat (first | (with_reducible first | exact HB.out | apply below_alloc | apply pw_below_drewN | apply below_drew1 | refine below_set ?_ GE291.out | refine below_set ?_ GE303.out) | exact HB.out))) (fun k_ h_ => h_)) (Kd.R_lt (by (with_reducible repeat (first | apply Kd.R_alloc | apply Kd.R_drewN | apply Kd.R_drew)); exact HO_5.out))) (below_size (by repeat (first | (with_reducible first | exact HB.out | apply below_alloc | apply pw_below_drewN | apply below_drew1 | refine below_set ?_ GE291.out | refine below_set ?_ GE303.out) | exact HB.out)))); have n5_ := Aside0.mk (blk_below (g := gb291) (o := .cells #[.int .i64 a0_0, .int .i64 a0_1, .int .i64 a0_2, .int .i64 a0_3, .slice A0_4 l0_4.length c0_4] 26 (0, 0)) (by (with_reducible repeat (first | refine blk_drewN ?_ _ | refine blk_drew ?_ | refine blk_alloc ?_ _)); exact BK291.out) hb); have n6_ := Aside0.mk (blk_below (g := gb303) (o := .cells #[.int .i64 a0_0, .int .i64 x304001_22, .int .i64 a0_2, .int .i64 x304003_22, .slice A0_4 l0_4.length c0_4] 26 (0, 0)) (by (with_reducible repeat (first | refine blk_drewN ?_ _ | refine blk_drew ?_ | refine blk_alloc ?_ _)); exact BK303.out) hb); have n7_ := Aside0.mk (below_step (by repeat (first | (with_reducible first | exact HB.out | apply below_alloc | apply pw_below_drewN | apply below_drew1 | refine below_set ?_ GE291.out | refine below_set ?_ GE303.out) | exact HB.out)) hb); clear HO_5; clear HO_292004; clear HO_304004; clear HO306; clear BK291; clear BK303; clear HB; have HO_5 := n0_; have HO_292004 := n1_; have HO_304004 := n2_; have HO306 := n3_; have HO310 := n4_; have BK291 := n5_; have BK303 := n6_; have HB := n7_; clear n0_ n1_ n2_ n3_ n4_ n5_ n6_ n7_; (try clear hb); (try clear hb2); (try clear hk); (try clear hi); (try clear ho0); obtain ⟨Ao90, co90, eo90⟩ := Kd.R_slice HO_5.out; subst eo90; have hcz91_0 : w89.cell? ⟨gb291, 0, none⟩ = some (.int .i64 a0_0) := (blk_cell BK291.out 0).trans rfl; have hcz91_1 : w89.cell? ⟨gb291, 1, none⟩ = some (.int .i64 a0_1) := (blk_cell BK291.out 1).trans rfl; have hcz91_2 : w89.cell? ⟨gb291, 2, none⟩ = some (.int .i64 a0_2) := (blk_cell BK291.out 2).trans rfl; have hcz91_3 : w89.cell? ⟨gb291, 3, none⟩ = some (.int .i64 a0_3) := (blk_cell BK291.out 3).trans rfl; have hcz91_4 : w89.cell? ⟨gb291, 4, none⟩ = some (.slice A0_4 l0_4.length c0_4) := (blk_cell BK291.out 4).trans rfl; have hfz91_0 := blk_frozen BK291.out 0; have hfz91_1 := blk_frozen BK291.out 1; have hfz91_2 := blk_frozen BK291.out 2; have hfz91_3 := blk_frozen BK291.out 3; have hfz91_4 := blk_frozen BK291.out 4))
        go_ret
        exact ⟨by first | rfl | (simp [errW_none, errW_some] <;> rfl) | (simp [*, errW_none, errW_some] <;> rfl), by repeat (first | (with_reducible first | exact HB.out | apply below_alloc | apply pw_below_drewN | apply below_drew1 | refine below_set ?_ GE291.out | refine below_set ?_ GE303.out) | exact HB.out)⟩
      ·
       replace c49 := Bool.eq_false_iff.mpr c49
       subst c49
       have H1 : (some false) = some r := by rw [if_neg (show ¬ (false = true) by decide)] at H; exact H
       clear H
       have H := H1
       clear H1
       obtain rfl := Option.some.inj H
       have hnb92 := NB303_291.out
       have hnc92 := NB291_303.out
       have hcz93_0 : wc.cell? ⟨gb303, 0, none⟩ = some (.int .i64 a0_0) := (blk_cell BK303.out 0).trans rfl
       have hcz93_1 : wc.cell? ⟨gb303, 1, none⟩ = some (.int .i64 x304001_22) := (blk_cell BK303.out 1).trans rfl
       have hcz93_2 : wc.cell? ⟨gb303, 2, none⟩ = some (.int .i64 a0_2) := (blk_cell BK303.out 2).trans rfl
       have hcz93_3 : wc.cell? ⟨gb303, 3, none⟩ = some (.int .i64 x304003_22) := (blk_cell BK303.out 3).trans rfl
       have hcz93_4 : wc.cell? ⟨gb303, 4, none⟩ = some (.slice A0_4 l0_4.length c0_4) := (blk_cell BK303.out 4).trans rfl
       have hfz93_0 := blk_frozen BK303.out 0
       have hfz93_1 := blk_frozen BK303.out 1
       have hfz93_2 := blk_frozen BK303.out 2
       have hfz93_3 := blk_frozen BK303.out 3
       have hfz93_4 := blk_frozen BK303.out 4
       go_wp2_with (first | ((with_reducible refine gate_dst (N := 55) rfl ?_); (try (refine gate_guard (by rfl) ?_; dsimp only)); refine Kd.N_lit k26 _ 26 ?hg (N' := 55) ?hd (xs := ([(⟨a0_0, x304001_22, a0_2, x304003_22, l0_4⟩ : S26)] : List (S26))) (inner := [.int .i64 a0_0, .int .i64 x304001_22, .int .i64 a0_2, .int .i64 x304003_22, .slice A0_4 l0_4.length c0_4]) (ok := (fun k_ => (P0_4_ k_ ∨ w.heap.size ≤ k_) ∧ some k_ ≠ (v301 : Value).ownBlock ∧ k_ ≠ gb291 ∧ k_ ≠ gb303)) (okp := (fun k_ => (P0_4_ k_ ∨ w.heap.size ≤ k_) ∧ some k_ ≠ (v301 : Value).ownBlock ∧ k_ ≠ gb291 ∧ k_ ≠ gb303)) ?hr ?hp (fun _ hk => hk) ((show ∀ k_, wc.heap.size ≤ k_ → (fun k_ => (P0_4_ k_ ∨ w.heap.size ≤ k_) ∧ some k_ ≠ (v301 : Value).ownBlock ∧ k_ ≠ gb291 ∧ k_ ≠ gb303) k_ from fun k_ hk => ⟨(.inr (Nat.le_trans (below_size (by repeat (first | (with_reducible first | exact HB.out | apply below_alloc | apply pw_below_drewN | apply below_drew1 | refine below_set ?_ GE291.out | refine below_set ?_ GE303.out) | exact HB.out))) hk)), Kd.fresh' (Kd.R_lt (by (with_reducible repeat (first | apply Kd.R_alloc | apply Kd.R_drewN | apply Kd.R_drew)); exact HO_5.out)) k_ hk, Kd.freshB (g := gb291) (o := .cells #[.int .i64 a0_0, .int .i64 a0_1, .int .i64 a0_2, .int .i64 a0_3, .slice A0_4 l0_4.length c0_4] 26 (0, 0)) (by (with_reducible repeat (first | refine blk_drewN ?_ _ | refine blk_drew ?_ | refine blk_alloc ?_ _)); exact BK291.out) k_ hk, Kd.freshB (g := gb303) (o := .cells #[.int .i64 a0_0, .int .i64 x304001_22, .int .i64 a0_2, .int .i64 x304003_22, .slice A0_4 l0_4.length c0_4] 26 (0, 0)) (by (with_reducible repeat (first | refine blk_drewN ?_ _ | refine blk_drew ?_ | refine blk_alloc ?_ _)); exact BK303.out) k_ hk⟩) _ (Nat.le_refl _)) (Below.refl _ _) (Nat.le_refl _) (by simp) ?_; (case hd => rfl); (case hg => rfl); (case hr => first | (go_simp; done) | (go_simp; rfl)); (case hp => exact (Reps.c5 (show Kd.FK k26 _ _ (⟨a0_0, x304001_22, a0_2, x304003_22, l0_4⟩ : S26) [.int .i64 a0_0, .int .i64 x304001_22, .int .i64 a0_2, .int .i64 x304003_22, .slice A0_4 l0_4.length c0_4] from (k26_mkF _ _ (⟨a0_0, x304001_22, a0_2, x304003_22, l0_4⟩ : S26) (Kd.V_reads' (Kd.V_mono (ok' := (fun k_ => (P0_4_ k_ ∨ w.heap.size ≤ k_) ∧ some k_ ≠ (v301 : Value).ownBlock ∧ k_ ≠ gb291 ∧ k_ ≠ gb303)) (HO_304004.out) (fun k_ hk => ⟨hk.1, ⟨hk.2.1, ⟨hk.2.2.1, hk.2.2.2⟩⟩⟩))).2.1 (Kd.V_F (Kd.V_mono (ok' := (fun k_ => (P0_4_ k_ ∨ w.heap.size ≤ k_) ∧ some k_ ≠ (v301 : Value).ownBlock ∧ k_ ≠ gb291 ∧ k_ ≠ gb303)) (HO_304004.out) (fun k_ hk => ⟨hk.1, ⟨hk.2.1, ⟨hk.2.2.1, hk.2.2.2⟩⟩⟩))))) (Reps.none _ _))); intro v305 w94 ho95 hb hg_ hnew_; clear hg_ hnew_; (first | rw [← Ny304.out] at ho95 | (simp only [Int.reduceToNat] at ho95; rw [← Ny304.out] at ho95)); have n0_ := Aside0.mk (Kd.R_below (by (with_reducible repeat (first | apply Kd.R_alloc | apply Kd.R_drewN | apply Kd.R_drew)); exact HO_5.out) hb); have n1_ := Aside0.mk (Kd.V_elder' (by (with_reducible repeat (first | apply Kd.V_alloc | apply Kd.V_drewN | apply Kd.V_drew)); exact HO_292004.out) (Kd.N_base ho95) hb); have n2_ := Aside0.mk (Kd.V_elder' (by (with_reducible repeat (first | apply Kd.V_alloc | apply Kd.V_drewN | apply Kd.V_drew)); exact HO_304004.out) (Kd.N_base ho95) hb); have n3_ := Aside0.mk (Kd.N_lower ho95 (below_size (by repeat (first | (with_reducible first | exact HB.out | apply below_alloc | apply pw_below_drewN | apply below_drew1 | refine below_set ?_ GE291.out | refine below_set ?_ GE303.out) | exact HB.out)))); have n4_ := Aside0.mk (blk_below (g := gb291) (o := .cells #[.int .i64 a0_0, .int .i64 a0_1, .int .i64 a0_2, .int .i64 a0_3, .slice A0_4 l0_4.length c0_4] 26 (0, 0)) (by (with_reducible repeat (first | refine blk_drewN ?_ _ | refine blk_drew ?_ | refine blk_alloc ?_ _)); exact BK291.out) hb); have n5_ := Aside0.mk (blk_below (g := gb303) (o := .cells #[.int .i64 a0_0, .int .i64 x304001_22, .int .i64 a0_2, .int .i64 x304003_22, .slice A0_4 l0_4.length c0_4] 26 (0, 0)) (by (with_reducible repeat (first | refine blk_drewN ?_ _ | refine blk_drew ?_ | refine blk_alloc ?_ _)); exact BK303.out) hb); have n6_ := Aside0.mk (below_step (by repeat (first | (with_reducible first | exact HB.out | apply below_alloc | apply pw_below_drewN | apply below_drew1 | refine below_set ?_ GE291.out | refine below_set ?_ GE303.out) | exact HB.out)) hb); clear HO_5; clear HO_292004; clear HO_304004; clear BK291; clear BK303; clear HB; have HO_5 := n0_; have HO_292004 := n1_; have HO_304004 := n2_; have HO306 := n3_; have BK291 := n4_; have BK303 := n5_; have HB := n6_; clear n0_ n1_ n2_ n3_ n4_ n5_ n6_; clear hb ho95; obtain ⟨Ao96, co96, eo96⟩ := Kd.N_slice HO306.out; subst eo96) | ((with_reducible refine gate_callee (f := 16) rfl ?_); refine goesL_ (some 56) rfl rfl Try.func16 (by kernel_rfl) rfl #[.slice Ao96 y304.length co96] rfl (by (try simp only [List.map_toArray, List.map_cons, List.map_nil]); first | done | rfl | (simp only [List.length_drop, List.length_take]; rfl)) ?_; (with_reducible refine (code_Encode.calls kj22 _ _ y304 t307 t308 _ ?side1 ?side2 A48.out).mono ?_); (case side1 => repeat (first | exact (Kd.N_reads' HO306.out).2.2 | (with_reducible refine Kd.C_alloc ?_ _) | (with_reducible refine Kd.C_drewN ?_ _) | (with_reducible refine Kd.C_drew ?_))); (case side2 => exact (Kd.N_reads' HO306.out).2.1); rintro e w97 ⟨v309, rfl, ho0, hb⟩; refine ⟨_, rfl, ?_⟩; have n0_ := Aside0.mk (Kd.R_elder' (by (with_reducible repeat (first | apply Kd.R_alloc | apply Kd.R_drewN | apply Kd.R_drew)); exact HO_5.out) (Kd.R_base ho0) hb); have n1_ := Aside0.mk (Kd.V_elder' (by (with_reducible repeat (first | apply Kd.V_alloc | apply Kd.V_drewN | apply Kd.V_drew)); exact HO_292004.out) (Kd.R_base ho0) hb); have n2_ := Aside0.mk (Kd.V_elder' (by (with_reducible repeat (first | apply Kd.V_alloc | apply Kd.V_drewN | apply Kd.V_drew)); exact HO_304004.out) (Kd.R_base ho0) hb); have n3_ := Aside0.mk (Kd.N_elder' (by (with_reducible repeat (first | apply Kd.N_alloc | apply Kd.N_drewN | apply Kd.N_drew)); exact HO306.out) (Kd.R_base ho0) hb); have n4_ := Aside0.mk (Kd.R_lower (Kd.R_new' (Kd.R_newM (M := fun k_ => (w.heap.size ≤ k_)) ho0 (below_size (by repeat (first | (with_reducible first | exact HB.out | apply below_alloc | apply pw_below_drewN | apply below_drew1 | refine below_set ?_ GE291.out | refine below_set ?_ GE303.out) | exact HB.out))) (fun k_ h_ => h_)) (Kd.R_lt (by (with_reducible repeat (first | apply Kd.R_alloc | apply Kd.R_drewN | apply Kd.R_drew)); exact HO_5.out))) (below_size (by repeat (first | (with_reducible first | exact HB.out | apply below_alloc | apply pw_below_drewN | apply below_drew1 | refine below_set ?_ GE291.out | refine below_set ?_ GE303.out) | exact HB.out)))); have n5_ := Aside0.mk (blk_below (g := gb291) (o := .cells #[.int .i64 a0_0, .int .i64 a0_1, .int .i64 a0_2, .int .i64 a0_3, .slice A0_4 l0_4.length c0_4] 26 (0, 0)) (by (with_reducible repeat (first | refine blk_drewN ?_ _ | refine blk_drew ?_ | refine blk_alloc ?_ _)); exact BK291.out) hb); have n6_ := Aside0.mk (blk_below (g := gb303) (o := .cells #[.int .i64 a0_0, .int .i64 x304001_22, .int .i64 a0_2, .int .i64 x304003_22, .slice A0_4 l0_4.length c0_4] 26 (0, 0)) (by (with_reducible repeat (first | refine blk_drewN ?_ _ | refine blk_drew ?_ | refine blk_alloc ?_ _)); exact BK303.out) hb); have n7_ := Aside0.mk (below_step (by repeat (first | (with_reducible first | exact HB.out | apply below_alloc | apply pw_below_drewN | apply below_drew1 | refine below_set ?_ GE291.out | refine below_set ?_ GE303.out) | exact HB.out)) hb); clear HO_5; clear HO_292004; clear HO_304004; clear HO306; clear BK291; clear BK303; clear HB; have HO_5 := n0_; have HO_292004 := n1_; have HO_304004 := n2_; have HO306 := n3_; have HO310 := n4_; have BK291 := n5_; have BK303 := n6_; have HB := n7_; clear n0_ n1_ n2_ n3_ n4_ n5_ n6_ n7_; (try clear hb); (try clear hb2); (try clear hk); (try clear hi); (try clear ho0)))
       go_ret
       exact ⟨by first | rfl | (simp [errW_none, errW_some] <;> rfl) | (simp [*, errW_none, errW_some] <;> rfl), by repeat (first | (with_reducible first | exact HB.out | apply below_alloc | apply pw_below_drewN | apply below_drew1 | refine below_set ?_ GE291.out | refine below_set ?_ GE303.out) | exact HB.out)⟩
/-- What a value of type 26 that is read fits. -/
def wfT26 (x : S26) : Prop := (Lit.int .i64 x.f0).wf = true ∧ (Lit.int .i64 x.f1).wf = true ∧ (Lit.int .i64 x.f2).wf = true ∧ (Lit.int .i64 x.f3).wf = true ∧ (x.f4.length ≤ maxLen ∧ ∀ x0_ ∈ x.f4, (Lit.int .u8 x0_).wf = true)

/-- THE ONE PURE STATEMENT of darninglaw23_CodeEach. -/
def darninglaw23_CodeEach.Pure : Prop := ∀ (a0_0 : Int) (a0_1 : Int) (a0_2 : Int) (a0_3 : Int) (l0_4 : List Int) (a1 : Int), (Lit.int .i64 a0_0).wf = true → (Lit.int .i64 a0_1).wf = true → (Lit.int .i64 a0_2).wf = true → (Lit.int .i64 a0_3).wf = true → (l0_4.length ≤ maxLen ∧ ∀ x0_ ∈ l0_4, (Lit.int .u8 x0_).wf = true) → (Lit.int .i64 a1).wf = true → ∃ k, darninglaw23_CodeEach.f k a0_0 a0_1 a0_2 a0_3 l0_4 a1 = some true
theorem darninglaw23_CodeEach.walk (P : darninglaw23_CodeEach.Pure) (a0_0 : Int) (a0_1 : Int) (a0_2 : Int) (a0_3 : Int) (A0_4 : Option Addr) (c0_4 : Nat) (l0_4 : List Int) (a1 : Int) (w : World) (hr0_4 : Kd.C (Kd.int .u8) w A0_4 l0_4.length l0_4) (hc0_4 : l0_4.length ≤ c0_4) (hw0_0 : (Lit.int .i64 a0_0).wf = true) (hw0_1 : (Lit.int .i64 a0_1).wf = true) (hw0_2 : (Lit.int .i64 a0_2).wf = true) (hw0_3 : (Lit.int .i64 a0_3).wf = true) (hw0_4 : (l0_4.length ≤ maxLen ∧ ∀ x0_ ∈ l0_4, (Lit.int .u8 x0_).wf = true)) (w1 : (Lit.int .i64 a1).wf = true) :
  Calls Try.prog 6 #[.agg #[.int .i64 a0_0, .int .i64 a0_1, .int .i64 a0_2, .int .i64 a0_3, .slice A0_4 l0_4.length c0_4], .int .i64 a1] w fun e w' => e = .returned (.bool true) ∧ Below w.heap.size w w' := by
 obtain ⟨k, h⟩ := P a0_0 a0_1 a0_2 a0_3 l0_4 a1 hw0_0 hw0_1 hw0_2 hw0_3 hw0_4 w1
 refine (darninglaw23_CodeEach.calls k a0_0 a0_1 a0_2 a0_3 (fun k_ => k_ < w.heap.size) A0_4 c0_4 l0_4 a1 true w (Kd.V_mk hc0_4 (Kd.C_F (Kd.heap_int .u8) hr0_4)) h).mono ?_
 rintro e w' ⟨rfl, hd⟩
 exact ⟨rfl, hd⟩

end Go.Proofs.Ytfgggmojdefidaa.XCodeEach
