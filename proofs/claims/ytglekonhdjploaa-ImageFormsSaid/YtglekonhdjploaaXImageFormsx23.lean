-- printed by wip/xprint.py
import Derived.Test.YtglekonhdjploaaXImageFormsx0
import Derived.Test.YtglekonhdjploaaXImageFormsx12
import Derived.Test.YtglekonhdjploaaXImageFormsx15
import Derived.Test.YtglekonhdjploaaXImageFormsx16
import Derived.Test.YtglekonhdjploaaXImageFormsx22
namespace Go.Proofs.Ytglekonhdjploaa.XImageForms
open Go.RowKit Go.Proofs.YtglekonhdjploaaW.PrintWords Go.Proofs.YtglekonhdjploaaW.PrintLast Go.Proofs.YtglekonhdjploaaW.PrintMore
attribute [local go_sem] max2_int min2_int max_two min_two max_three min_three max_four min_four
set_option linter.unusedVariables false
set_option linter.unusedSimpArgs false

/-! ### darningref4_Is: function 53 -/
def darningref4_Is.l0 : Nat → Int → List (S35) → Int → Int → Option (Int)
 | 0, _, _, _, _ => none
 | k + 1, x1, x7, x8, x9 => if x9 < x8 then (if 0 ≤ x9 then (if x9 < (x7.length : Int) then (if (rd_T35 x7 x9).f2 = true then ((darningref4_Off.f ((rd_T35 x7 x9).f0) ((rd_T35 x7 x9).f1) ((rd_T35 x7 x9).f2)).bind fun t437 => (if t437 = x1 then (some x9) else (darningref4_Is.l0 k x1 x7 x8 (wrap64 (x9 + 1))))) else (darningref4_Is.l0 k x1 x7 x8 (wrap64 (x9 + 1)))) else (none)) else (none)) else (some (-1))
def darningref4_Is.f (k : Nat) (l0 : List (S35)) (a1 : Int) : Option (Int) := darningref4_Is.l0 k a1 l0 (l0.length : Int) 0
theorem darningref4_Is.mono_l : ∀ k, (∀ y0 y1 y2 y3, LeO (darningref4_Is.l0 k y0 y1 y2 y3) (darningref4_Is.l0 (k + 1) y0 y1 y2 y3))
 | 0 => fun _ _ _ _ r h => by simp [darningref4_Is.l0] at h
 | k + 1 => by
  have ih0 := darningref4_Is.mono_l k
  ·
   intro y0 y1 y2 y3
   unfold darningref4_Is.l0
   repeat' first
   | (with_reducible exact ih0 _ _ _ _)
   | (with_reducible exact LeO.refl _)
   | (with_reducible exact LeO.none _)
   | (with_reducible refine LeO.ite ?_ ?_)
   | (with_reducible refine LeO.bind ?_ (fun _ => ?_))
   | exact ih0 _ _ _ _
   | exact LeO.none _
   | refine LeO.ite ?_ ?_
   | refine LeO.bind ?_ (fun _ => ?_)
theorem darningref4_Is.mono : ∀ a0 a1 k, LeO (darningref4_Is.f k a0 a1) (darningref4_Is.f (k + 1) a0 a1) := by
 intro a0 a1 k
 have ih0 := darningref4_Is.mono_l k
 unfold darningref4_Is.f
 repeat' first
   | (with_reducible exact ih0 _ _ _ _)
   | (with_reducible exact LeO.refl _)
   | (with_reducible exact LeO.none _)
   | (with_reducible refine LeO.ite ?_ ?_)
   | (with_reducible refine LeO.bind ?_ (fun _ => ?_))
   | exact ih0 _ _ _ _
   | exact LeO.none _
   | refine LeO.ite ?_ ?_
   | refine LeO.bind ?_ (fun _ => ?_)
set_option maxHeartbeats 8000000 in
set_option maxRecDepth 100000 in
theorem darningref4_Is.calls (k : Nat) (A0 : Option Addr) (c0 : Nat) (l0 : List (S35)) (a1 : Int) (r : Int) (w : World) (hr0 : Kd.C k35 w A0 l0.length l0) (hc0 : l0.length ≤ c0) (h : darningref4_Is.f k l0 a1 = some r) :
  Calls Try.prog 53 #[.slice A0 l0.length c0, .int .i64 a1] w fun e w' => e = .returned (.int .i64 r) ∧ Below w.heap.size w w' := by
 have hu35 := Try.underlying35
 have HR0 := Aside0.mk hr0
 have HC0 := Aside0.mk hc0
 clear hr0 hc0
 have HB := Aside0.mk (Below.refl w.heap.size w)
 have H : (darningref4_Is.l0 k a1 l0 (l0.length : Int) 0) = some r := h
 clear h
 have H' := Aside0.mk H
 clear H
 go_enter Try.func53, Try.ntmps53
 go_wp2
 go_loopg [9] k (fun kq v9 w' => ∃ (x9_1 : Int), v9 = .int .i64 x9_1 ∧ Aside0 (darningref4_Is.l0 kq a1 l0 (l0.length : Int) x9_1 = some r) ∧ Aside0 (kq ≤ k) ∧ Aside0 (Below w.heap.size w w'))
 case atStart => exact ⟨(0), (by first | rfl | (simp; done) | (simp [*]; done)), H', ⟨Nat.le_refl _⟩, ⟨zB HB⟩⟩
 case round =>
  clear H'
  try clear p2
  obtain ⟨x9_1, rfl, HA, HK1, HB⟩ := hrel
  cases gk with
  | zero => exact absurd HA.out (by simp [darningref4_Is.l0])
  | succ k1 =>
   have H := HA.out
   clear HA
   simp only [darningref4_Is.l0] at H
   by_cases c3 : x9_1 < (l0.length : Int)
   rotate_left
   ·
    rw [if_neg c3] at H
    have c3b0 : decide (x9_1 < (l0.length : Int)) = false := decide_eq_false c3
    clear c3
    obtain rfl := Option.some.inj H
    go_wp2
    go_ret
    exact ⟨by first | rfl | (simp [errW_none, errW_some] <;> rfl) | (simp [*, errW_none, errW_some] <;> rfl), zB HB⟩
   rw [if_pos c3] at H
   have c3b0 : decide (x9_1 < (l0.length : Int)) = true := decide_eq_true c3
   clear c3
   by_cases c4 : 0 ≤ x9_1
   rotate_left
   ·
    rw [if_neg c4] at H
    exact absurd H (by simp)
   rw [if_pos c4] at H
   have c4b0 : decide (0 ≤ x9_1) = true := decide_eq_true c4
   clear c4
   by_cases c5 : x9_1 < (l0.length : Int)
   rotate_left
   ·
    rw [if_neg c5] at H
    exact absurd H (by simp)
   rw [if_pos c5] at H
   have c5b0 : decide (x9_1 < (l0.length : Int)) = true := decide_eq_true c5
   clear c5
   first | (generalize hbq6 : (rd_T35 l0 x9_1).f2 = bq6 at *; replace hbq6 := hbq6.symm) | (obtain ⟨bq6, hbq6⟩ : ∃ b_ : Bool, b_ = ((rd_T35 l0 x9_1).f2) := ⟨_, rfl⟩)
   replace H : (if bq6 = true then ((darningref4_Off.f ((rd_T35 l0 x9_1).f0) ((rd_T35 l0 x9_1).f1) bq6).bind fun t437 => (if t437 = a1 then (some x9_1) else (darningref4_Is.l0 k1 a1 l0 (l0.length : Int) (wrap64 (x9_1 + 1))))) else (darningref4_Is.l0 k1 a1 l0 (l0.length : Int) (wrap64 (x9_1 + 1)))) = some r := by first | exact H | (rw [← hbq6] at H; exact H)
   have Nbq6 := Aside0.mk hbq6
   clear hbq6
   (try rw [← Nbq6.out])
   by_cases c7 : bq6 = true
   rotate_left
   ·
    replace c7 := Bool.eq_false_iff.mpr c7
    subst c7
    have H1 : (darningref4_Is.l0 k1 a1 l0 (l0.length : Int) (wrap64 (x9_1 + 1))) = some r := by rw [if_neg (show ¬ (false = true) by decide)] at H; exact H
    clear H
    have H := H1
    clear H1
    have H' := Aside0.mk H
    clear H
    have p435 : 0 ≤ (x9_1 : Int) := zu
    have q435 : x9_1 < (l0.length : Int) := zu
    obtain ⟨ad435, e435, hx435_0, hx435_1, hx435_2⟩ := at_T35 HR0.out x9_1 p435 q435
    (try rw [← Nbq6.out] at hx435_2)
    cases e435
    replace hx435_0 := zw HB hx435_0
    replace hx435_1 := zw HB hx435_1
    replace hx435_2 := zw HB hx435_2
    replace p435 := eq_true p435
    replace q435 := eq_true q435
    go_wp2_with (first | ((with_reducible refine gate_dst (N := 6) rfl ?_); refine box_event ?hg (N := 6) ?hd (cs := #[.int .i64 0, .int .i64 0, .bool false]) (t := 35) ?hr ?_; (case hd => rfl); (case hg => rfl); (case hr => first | (go_simp; done) | (go_simp; rfl)); intro gb436 hg w16 hbox hb; have n0_ := zb HB hb; have n1_ := Aside0.mk (hbox); have n2_ := Aside0.mk ((by rw [hg]; exact (below_size (zB HB)) : w.heap.size ≤ gb436)); have n3_ := Aside0.mk ((by rw [hg]; exact (below_size (zB HB)) : w.heap.size ≤ gb436)); clear HB; have HB := n0_; have BK436 := n1_; have GW436 := n2_; have GE436 := n3_; clear n0_ n1_ n2_ n3_; clear hb hbox hg; have hcz17_0 : w16.cell? ⟨gb436, 0, none⟩ = some (.int .i64 0) := (blk_cell BK436.out 0).trans rfl; have hcz17_1 : w16.cell? ⟨gb436, 1, none⟩ = some (.int .i64 0) := (blk_cell BK436.out 1).trans rfl; have hcz17_2 : w16.cell? ⟨gb436, 2, none⟩ = some (.bool false) := (blk_cell BK436.out 2).trans rfl; have hfz17_0 := blk_frozen BK436.out 0; have hfz17_1 := blk_frozen BK436.out 1; have hfz17_2 := blk_frozen BK436.out 2))
    go_roundg k1
    case measure => have := HK1.out; omega
    case rel => exact ⟨(wrap64 (x9_1 + 1)), (by first | rfl | (simp; done) | (simp [*]; done)), H', ⟨by have := HK1.out; omega⟩, ⟨by repeat (first | (with_reducible first | exact HB.out | apply qd | apply qe | apply qf | refine below_set ?_ GE436.out) | exact HB.out)⟩⟩
   subst c7
   have H1 : ((darningref4_Off.f ((rd_T35 l0 x9_1).f0) ((rd_T35 l0 x9_1).f1) true).bind fun t437 => (if t437 = a1 then (some x9_1) else (darningref4_Is.l0 k1 a1 l0 (l0.length : Int) (wrap64 (x9_1 + 1))))) = some r := by rw [if_pos rfl] at H; exact H
   clear H
   have H := H1
   clear H1
   replace H := Option.bind_eq_some_iff.mp H
   obtain ⟨t437, A80, H⟩ := H
   replace H : (if t437 = a1 then (some x9_1) else (darningref4_Is.l0 k1 a1 l0 (l0.length : Int) (wrap64 (x9_1 + 1)))) = some r := H
   have A8 := Aside0.mk A80
   clear A80
   by_cases c9 : t437 = a1
   ·
    rw [if_pos c9] at H
    have c9b0 : (t437 == a1) = true := beq_iff_eq.mpr c9
    have c9b1 : (t437 != a1) = false := bne_eq_false_iff_eq.mpr c9
    clear c9
    obtain rfl := Option.some.inj H
    have p435 : 0 ≤ (x9_1 : Int) := zu
    have q435 : x9_1 < (l0.length : Int) := zu
    obtain ⟨ad435, e435, hx435_0, hx435_1, hx435_2⟩ := at_T35 HR0.out x9_1 p435 q435
    (try rw [← Nbq6.out] at hx435_2)
    cases e435
    replace hx435_0 := zw HB hx435_0
    replace hx435_1 := zw HB hx435_1
    replace hx435_2 := zw HB hx435_2
    replace p435 := eq_true p435
    replace q435 := eq_true q435
    go_wp2_with (first | ((with_reducible refine gate_dst (N := 6) rfl ?_); refine box_event ?hg (N := 6) ?hd (cs := #[.int .i64 0, .int .i64 0, .bool false]) (t := 35) ?hr ?_; (case hd => rfl); (case hg => rfl); (case hr => first | (go_simp; done) | (go_simp; rfl)); intro gb436 hg w10 hbox hb; have n0_ := zb HB hb; have n1_ := Aside0.mk (hbox); have n2_ := Aside0.mk ((by rw [hg]; exact (below_size (zB HB)) : w.heap.size ≤ gb436)); have n3_ := Aside0.mk ((by rw [hg]; exact (below_size (zB HB)) : w.heap.size ≤ gb436)); clear HB; have HB := n0_; have BK436 := n1_; have GW436 := n2_; have GE436 := n3_; clear n0_ n1_ n2_ n3_; clear hb hbox hg; have hcz11_0 : w10.cell? ⟨gb436, 0, none⟩ = some (.int .i64 0) := (blk_cell BK436.out 0).trans rfl; have hcz11_1 : w10.cell? ⟨gb436, 1, none⟩ = some (.int .i64 0) := (blk_cell BK436.out 1).trans rfl; have hcz11_2 : w10.cell? ⟨gb436, 2, none⟩ = some (.bool false) := (blk_cell BK436.out 2).trans rfl; have hfz11_0 := blk_frozen BK436.out 0; have hfz11_1 := blk_frozen BK436.out 1; have hfz11_2 := blk_frozen BK436.out 2) | (go_at_call 29; (with_reducible refine (darningref4_Off.calls ((rd_T35 l0 x9_1).f0) ((rd_T35 l0 x9_1).f1) true t437 _ A8.out).mono ?_); rintro e w12 ⟨rfl, hb⟩; have n0_ := Aside0.mk (blk_below (g := gb436) (o := .cells #[.int .i64 ((rd_T35 l0 x9_1).f0), .int .i64 ((rd_T35 l0 x9_1).f1), .bool true] 35 (0, 0)) (by (with_reducible repeat (first | refine blk_drewN ?_ _ | refine blk_drew ?_ | refine blk_alloc ?_ _)); refine blk_put (cs := #[.int .i64 ((rd_T35 l0 x9_1).f0), .int .i64 ((rd_T35 l0 x9_1).f1), .bool false]) ?_ 2 _ rfl; (with_reducible repeat (first | refine blk_drewN ?_ _ | refine blk_drew ?_ | refine blk_alloc ?_ _)); refine blk_put (cs := #[.int .i64 ((rd_T35 l0 x9_1).f0), .int .i64 0, .bool false]) ?_ 1 _ rfl; (with_reducible repeat (first | refine blk_drewN ?_ _ | refine blk_drew ?_ | refine blk_alloc ?_ _)); refine blk_put (cs := #[.int .i64 0, .int .i64 0, .bool false]) ?_ 0 _ rfl; (with_reducible repeat (first | refine blk_drewN ?_ _ | refine blk_drew ?_ | refine blk_alloc ?_ _)); exact BK436.out) hb); have n1_ := Aside0.mk (qw (by repeat (first | (with_reducible first | exact HB.out | apply qd | apply qe | apply qf | refine below_set ?_ GE436.out) | exact HB.out)) hb); replace BK436 := n0_; replace HB := n1_; clear n0_ n1_; (try clear hb)))
    go_ret
    exact ⟨by first | rfl | (simp [errW_none, errW_some] <;> rfl) | (simp [*, errW_none, errW_some] <;> rfl), by repeat (first | (with_reducible first | exact HB.out | apply qd | apply qe | apply qf | refine below_set ?_ GE436.out) | exact HB.out)⟩
   rw [if_neg c9] at H
   have c9b0 : (t437 == a1) = false := beq_eq_false_iff_ne.mpr c9
   have c9b1 : (t437 != a1) = true := bne_iff_ne.mpr c9
   have H' := Aside0.mk H
   clear H
   have p435 : 0 ≤ (x9_1 : Int) := zu
   have q435 : x9_1 < (l0.length : Int) := zu
   obtain ⟨ad435, e435, hx435_0, hx435_1, hx435_2⟩ := at_T35 HR0.out x9_1 p435 q435
   (try rw [← Nbq6.out] at hx435_2)
   cases e435
   replace hx435_0 := zw HB hx435_0
   replace hx435_1 := zw HB hx435_1
   replace hx435_2 := zw HB hx435_2
   replace p435 := eq_true p435
   replace q435 := eq_true q435
   go_wp2_with (first | ((with_reducible refine gate_dst (N := 6) rfl ?_); refine box_event ?hg (N := 6) ?hd (cs := #[.int .i64 0, .int .i64 0, .bool false]) (t := 35) ?hr ?_; (case hd => rfl); (case hg => rfl); (case hr => first | (go_simp; done) | (go_simp; rfl)); intro gb436 hg w13 hbox hb; have n0_ := zb HB hb; have n1_ := Aside0.mk (hbox); have n2_ := Aside0.mk ((by rw [hg]; exact (below_size (zB HB)) : w.heap.size ≤ gb436)); have n3_ := Aside0.mk ((by rw [hg]; exact (below_size (zB HB)) : w.heap.size ≤ gb436)); clear HB; have HB := n0_; have BK436 := n1_; have GW436 := n2_; have GE436 := n3_; clear n0_ n1_ n2_ n3_; clear hb hbox hg; have hcz14_0 : w13.cell? ⟨gb436, 0, none⟩ = some (.int .i64 0) := (blk_cell BK436.out 0).trans rfl; have hcz14_1 : w13.cell? ⟨gb436, 1, none⟩ = some (.int .i64 0) := (blk_cell BK436.out 1).trans rfl; have hcz14_2 : w13.cell? ⟨gb436, 2, none⟩ = some (.bool false) := (blk_cell BK436.out 2).trans rfl; have hfz14_0 := blk_frozen BK436.out 0; have hfz14_1 := blk_frozen BK436.out 1; have hfz14_2 := blk_frozen BK436.out 2) | (go_at_call 29; (with_reducible refine (darningref4_Off.calls ((rd_T35 l0 x9_1).f0) ((rd_T35 l0 x9_1).f1) true t437 _ A8.out).mono ?_); rintro e w15 ⟨rfl, hb⟩; have n0_ := Aside0.mk (blk_below (g := gb436) (o := .cells #[.int .i64 ((rd_T35 l0 x9_1).f0), .int .i64 ((rd_T35 l0 x9_1).f1), .bool true] 35 (0, 0)) (by (with_reducible repeat (first | refine blk_drewN ?_ _ | refine blk_drew ?_ | refine blk_alloc ?_ _)); refine blk_put (cs := #[.int .i64 ((rd_T35 l0 x9_1).f0), .int .i64 ((rd_T35 l0 x9_1).f1), .bool false]) ?_ 2 _ rfl; (with_reducible repeat (first | refine blk_drewN ?_ _ | refine blk_drew ?_ | refine blk_alloc ?_ _)); refine blk_put (cs := #[.int .i64 ((rd_T35 l0 x9_1).f0), .int .i64 0, .bool false]) ?_ 1 _ rfl; (with_reducible repeat (first | refine blk_drewN ?_ _ | refine blk_drew ?_ | refine blk_alloc ?_ _)); refine blk_put (cs := #[.int .i64 0, .int .i64 0, .bool false]) ?_ 0 _ rfl; (with_reducible repeat (first | refine blk_drewN ?_ _ | refine blk_drew ?_ | refine blk_alloc ?_ _)); exact BK436.out) hb); have n1_ := Aside0.mk (qw (by repeat (first | (with_reducible first | exact HB.out | apply qd | apply qe | apply qf | refine below_set ?_ GE436.out) | exact HB.out)) hb); replace BK436 := n0_; replace HB := n1_; clear n0_ n1_; (try clear hb)))
   go_roundg k1
   case measure => have := HK1.out; omega
   case rel => exact ⟨(wrap64 (x9_1 + 1)), (by first | rfl | (simp; done) | (simp [*]; done)), H', ⟨by have := HK1.out; omega⟩, ⟨by repeat (first | (with_reducible first | exact HB.out | apply qd | apply qe | apply qf | refine below_set ?_ GE436.out) | exact HB.out)⟩⟩

/-! ### darningref4_ImageFree: function 47 -/
def darningref4_ImageFree.f (k : Nat) (l0 : List Int) (a1 : Int) : Option ((List (S30)) × Int) := (darningref4_Blocks.f k l0).bind fun bt438 => (if bt438.2 = true then ((darningref4_Is.f k bt438.1 a1).bind fun t442 => ((darningref4_Merged.f k bt438.1 t442).bind fun bt443 => (if bt443.2.2 = true then (if 0 ≤ bt443.2.1 then (if bt443.2.1 < (bt443.1.length : Int) then ((darningref4_Word.f ((rd_T35 bt443.1 bt443.2.1).f1) false).bind fun t450 => (some ((([(⟨(rd_T35 bt443.1 bt443.2.1).f0, t450⟩ : S30)] : List (S30))), 0))) else (none)) else (none)) else (some (([] : List (S30)), 1))))) else (some (([] : List (S30)), 6)))
theorem darningref4_ImageFree.mono : ∀ a0 a1 k, LeO (darningref4_ImageFree.f k a0 a1) (darningref4_ImageFree.f (k + 1) a0 a1) := by
 intro a0 a1 k
 unfold darningref4_ImageFree.f
 repeat' first
   | (with_reducible exact darningref4_Blocks.mono _ _)
   | (with_reducible exact darningref4_Is.mono _ _ _)
   | (with_reducible exact darningref4_Merged.mono _ _ _)
   | (with_reducible exact LeO.refl _)
   | (with_reducible exact LeO.none _)
   | (with_reducible refine LeO.ite ?_ ?_)
   | (with_reducible refine LeO.bind ?_ (fun _ => ?_))
   | exact darningref4_Blocks.mono _ _
   | exact darningref4_Is.mono _ _ _
   | exact darningref4_Merged.mono _ _ _
   | exact LeO.none _
   | refine LeO.ite ?_ ?_
   | refine LeO.bind ?_ (fun _ => ?_)
def darningref4_ImageFree.T7 : Bool × List (List Nat × List Nat) := (true, [([], []), ([], []), ([0, 1], [0, 1]), ([2], [2]), ([3], [3]), ([], []), ([], []), ([5, 6], [5, 6]), ([7], [7]), ([8], [8]), ([9], [9]), ([4, 10], [4, 10]), ([11], [11]), ([12, 10, 0, 1, 2, 3, 4, 5, 6, 7, 8, 9, 10, 11, 12], [12]), ([13, 0, 1, 2, 3, 4, 5, 6, 7, 8, 9, 10, 11, 12, 13], [])])
def darningref4_ImageFree.B7 : List Nat := [0, 0, 3, 7, 15, 0, 0, 96, 224, 480, 992, 2047, 4095, 8191, 16383]
theorem darningref4_ImageFree.tab7 : rtab .any (opsOf Try.f47 7) = darningref4_ImageFree.T7 := by kernel_rfl
theorem darningref4_ImageFree.bits7 : waitsOk darningref4_ImageFree.T7.2 darningref4_ImageFree.B7 = true := by kernel_rfl
set_option maxHeartbeats 8000000 in
set_option maxRecDepth 100000 in
theorem darningref4_ImageFree.calls (k : Nat) (A0 : Option Addr) (c0 : Nat) (l0 : List Int) (a1 : Int) (r1 : List (S30)) (r2 : Int) (w : World) (hr0 : Kd.C (Kd.int .u64) w A0 l0.length l0) (hc0 : l0.length ≤ c0) (h : darningref4_ImageFree.f k l0 a1 = some (r1, r2)) :
  Calls Try.prog 47 #[.slice A0 l0.length c0, .int .i64 a1] w fun e w' => ∃ v0_ : Value, e = .returned (.tuple #[v0_, .int .i64 r2]) ∧ Kd.R k30 30 w' w.heap.size (fun _ => True) v0_ r1 ∧ Below w.heap.size w w' := by
 have hu30 := Try.underlying30
 have HR0 := Aside0.mk hr0
 have HC0 := Aside0.mk hc0
 clear hr0 hc0
 have HB := Aside0.mk (Below.refl w.heap.size w)
 have H : ((darningref4_Blocks.f k l0).bind fun bt438 => (if bt438.2 = true then ((darningref4_Is.f k bt438.1 a1).bind fun t442 => ((darningref4_Merged.f k bt438.1 t442).bind fun bt443 => (if bt443.2.2 = true then (if 0 ≤ bt443.2.1 then (if bt443.2.1 < (bt443.1.length : Int) then ((darningref4_Word.f ((rd_T35 bt443.1 bt443.2.1).f1) false).bind fun t450 => (some ((([(⟨(rd_T35 bt443.1 bt443.2.1).f0, t450⟩ : S30)] : List (S30))), 0))) else (none)) else (none)) else (some (([] : List (S30)), 1))))) else (some (([] : List (S30)), 6)))) = some (r1, r2) := h
 clear h
 replace H := Option.bind_eq_some_iff.mp H
 obtain ⟨⟨t438, t439⟩, A30, H⟩ := H
 replace H : (if t439 = true then ((darningref4_Is.f k t438 a1).bind fun t442 => ((darningref4_Merged.f k t438 t442).bind fun bt443 => (if bt443.2.2 = true then (if 0 ≤ bt443.2.1 then (if bt443.2.1 < (bt443.1.length : Int) then ((darningref4_Word.f ((rd_T35 bt443.1 bt443.2.1).f1) false).bind fun t450 => (some ((([(⟨(rd_T35 bt443.1 bt443.2.1).f0, t450⟩ : S30)] : List (S30))), 0))) else (none)) else (none)) else (some (([] : List (S30)), 1))))) else (some (([] : List (S30)), 6))) = some (r1, r2) := H
 have A3 := Aside0.mk A30
 clear A30
 by_cases c4 : t439 = true
 rotate_left
 ·
  replace c4 := Bool.eq_false_iff.mpr c4
  subst c4
  have H1 : (some (([] : List (S30)), 6)) = some (r1, r2) := by rw [if_neg (show ¬ (false = true) by decide)] at H; exact H
  clear H
  have H := H1
  clear H1
  simp only [Option.some.injEq, Prod.mk.injEq] at H
  obtain ⟨rfl, rfl⟩ := H
  go_enter Try.func47, Try.ntmps47
  go_wp2_with (first | ((with_reducible refine gate_callee (f := 52) rfl ?_); refine goesL_ (some 12) rfl rfl Try.func52 (by kernel_rfl) rfl #[.slice A0 l0.length c0] rfl (by (try simp only [qj, qk, ql]); first | done | rfl | (simp only [qm, qn]; rfl)) ?_; (with_reducible refine (darningref4_Blocks.calls k _ _ l0 t438 false _ ?side1 ?side2 A3.out).mono ?_); (case side1 => exact zc HR0.out); (case side2 => exact HC0.out); rintro e w23 ⟨v440, rfl, ho0, hb⟩; refine ⟨_, rfl, ?_⟩; have n0_ := Aside0.mk (Kd.R_lower ho0 (below_size (zB HB))); have n1_ := zb HB hb; clear HB; have HO441 := n0_; have HB := n1_; clear n0_ n1_; (try clear hb); (try clear ho0)))
  go_ret2
  exact ⟨_, by first | rfl | (simp [errW_none, errW_some] <;> rfl) | (simp [*, errW_none, errW_some] <;> rfl), by first | exact Kd.R_nil _ _ _ _ _ | exact Kd.N_nil _ _ _ _ _ | exact Kd.V_nil _ _ _ _ _ | exact Kd.Q_nil _ _ _ _ _ | exact Kd.S_nil _ _ _ _ _, zB HB⟩
 subst c4
 have H1 : ((darningref4_Is.f k t438 a1).bind fun t442 => ((darningref4_Merged.f k t438 t442).bind fun bt443 => (if bt443.2.2 = true then (if 0 ≤ bt443.2.1 then (if bt443.2.1 < (bt443.1.length : Int) then ((darningref4_Word.f ((rd_T35 bt443.1 bt443.2.1).f1) false).bind fun t450 => (some ((([(⟨(rd_T35 bt443.1 bt443.2.1).f0, t450⟩ : S30)] : List (S30))), 0))) else (none)) else (none)) else (some (([] : List (S30)), 1))))) = some (r1, r2) := by rw [if_pos rfl] at H; exact H
 clear H
 have H := H1
 clear H1
 replace H := Option.bind_eq_some_iff.mp H
 obtain ⟨t442, A50, H⟩ := H
 replace H : ((darningref4_Merged.f k t438 t442).bind fun bt443 => (if bt443.2.2 = true then (if 0 ≤ bt443.2.1 then (if bt443.2.1 < (bt443.1.length : Int) then ((darningref4_Word.f ((rd_T35 bt443.1 bt443.2.1).f1) false).bind fun t450 => (some ((([(⟨(rd_T35 bt443.1 bt443.2.1).f0, t450⟩ : S30)] : List (S30))), 0))) else (none)) else (none)) else (some (([] : List (S30)), 1)))) = some (r1, r2) := H
 have A5 := Aside0.mk A50
 clear A50
 replace H := Option.bind_eq_some_iff.mp H
 obtain ⟨⟨t443, t444, t445⟩, A60, H⟩ := H
 replace H : (if t445 = true then (if 0 ≤ t444 then (if t444 < (t443.length : Int) then ((darningref4_Word.f ((rd_T35 t443 t444).f1) false).bind fun t450 => (some ((([(⟨(rd_T35 t443 t444).f0, t450⟩ : S30)] : List (S30))), 0))) else (none)) else (none)) else (some (([] : List (S30)), 1))) = some (r1, r2) := H
 have A6 := Aside0.mk A60
 clear A60
 by_cases c7 : t445 = true
 rotate_left
 ·
  replace c7 := Bool.eq_false_iff.mpr c7
  subst c7
  have H1 : (some (([] : List (S30)), 1)) = some (r1, r2) := by rw [if_neg (show ¬ (false = true) by decide)] at H; exact H
  clear H
  have H := H1
  clear H1
  simp only [Option.some.injEq, Prod.mk.injEq] at H
  obtain ⟨rfl, rfl⟩ := H
  go_enter Try.func47, Try.ntmps47
  go_wp2_with (first | ((with_reducible refine gate_callee (f := 52) rfl ?_); refine goesL_ (some 12) rfl rfl Try.func52 (by kernel_rfl) rfl #[.slice A0 l0.length c0] rfl (by (try simp only [qj, qk, ql]); first | done | rfl | (simp only [qm, qn]; rfl)) ?_; (with_reducible refine (darningref4_Blocks.calls k _ _ l0 t438 true _ ?side1 ?side2 A3.out).mono ?_); (case side1 => exact zc HR0.out); (case side2 => exact HC0.out); rintro e w19 ⟨v440, rfl, ho0, hb⟩; refine ⟨_, rfl, ?_⟩; have n0_ := Aside0.mk (Kd.R_lower ho0 (below_size (zB HB))); have n1_ := zb HB hb; clear HB; have HO441 := n0_; have HB := n1_; clear n0_ n1_; (try clear hb); (try clear ho0); obtain ⟨Ao20, co20, eo20⟩ := Kd.R_slice HO441.out; subst eo20) | ((with_reducible refine gate_callee (f := 53) rfl ?_); refine goesL_ (some 21) rfl rfl Try.func53 (by kernel_rfl) rfl #[.slice Ao20 t438.length co20, .int .i64 a1] rfl (by (try simp only [qj, qk, ql]); first | done | rfl | (simp only [qm, qn]; rfl)) ?_; (with_reducible refine (darningref4_Is.calls k _ _ t438 a1 t442 _ ?side1 ?side2 A5.out).mono ?_); (case side1 => exact zc (Kd.R_reads' HO441.out).2.2); (case side2 => exact (Kd.R_reads' HO441.out).2.1); rintro e w21 ⟨rfl, hb⟩; refine ⟨_, rfl, ?_⟩; have n0_ := za HO441 hb; have n1_ := zb HB hb; replace HO441 := n0_; replace HB := n1_; clear n0_ n1_; (try clear hb)) | ((with_reducible refine gate_callee (f := 17) rfl ?_); refine goesL_ (some 22) rfl rfl Try.func17 (by kernel_rfl) rfl #[.slice Ao20 t438.length co20, .int .i64 t442] rfl (by (try simp only [qj, qk, ql]); first | done | rfl | (simp only [qm, qn]; rfl)) ?_; (with_reducible refine (darningref4_Merged.calls k _ _ t438 t442 t443 t444 false _ ?side1 ?side2 A6.out).mono ?_); (case side1 => exact zc (Kd.R_reads' HO441.out).2.2); (case side2 => exact (Kd.R_reads' HO441.out).2.1); rintro e w22 ⟨v446, rfl, ho0, hb⟩; refine ⟨_, rfl, ?_⟩; have n0_ := Aside0.mk (Kd.R_elder' (zr HO441) (Kd.R_base ho0) hb); have n1_ := Aside0.mk (Kd.R_lower (Kd.R_new' ho0 (Kd.R_lt (zr HO441))) (below_size (zB HB))); have n2_ := zb HB hb; clear HO441; clear HB; have HO441 := n0_; have HO447 := n1_; have HB := n2_; clear n0_ n1_ n2_; (try clear hb); (try clear ho0)))
  go_ret2
  exact ⟨_, by first | rfl | (simp [errW_none, errW_some] <;> rfl) | (simp [*, errW_none, errW_some] <;> rfl), by first | exact Kd.R_nil _ _ _ _ _ | exact Kd.N_nil _ _ _ _ _ | exact Kd.V_nil _ _ _ _ _ | exact Kd.Q_nil _ _ _ _ _ | exact Kd.S_nil _ _ _ _ _, zB HB⟩
 subst c7
 have H1 : (if 0 ≤ t444 then (if t444 < (t443.length : Int) then ((darningref4_Word.f ((rd_T35 t443 t444).f1) false).bind fun t450 => (some ((([(⟨(rd_T35 t443 t444).f0, t450⟩ : S30)] : List (S30))), 0))) else (none)) else (none)) = some (r1, r2) := by rw [if_pos rfl] at H; exact H
 clear H
 have H := H1
 clear H1
 by_cases c8 : 0 ≤ t444
 rotate_left
 ·
  rw [if_neg c8] at H
  exact absurd H (by simp)
 rw [if_pos c8] at H
 have c8b0 : decide (0 ≤ t444) = true := decide_eq_true c8
 clear c8
 by_cases c9 : t444 < (t443.length : Int)
 rotate_left
 ·
  rw [if_neg c9] at H
  exact absurd H (by simp)
 rw [if_pos c9] at H
 have c9b0 : decide (t444 < (t443.length : Int)) = true := decide_eq_true c9
 clear c9
 replace H := Option.bind_eq_some_iff.mp H
 obtain ⟨t450, A100, H⟩ := H
 replace H : (some ((([(⟨(rd_T35 t443 t444).f0, t450⟩ : S30)] : List (S30))), 0)) = some (r1, r2) := H
 have A10 := Aside0.mk A100
 clear A100
 obtain ⟨y451, hy451⟩ : ∃ y_ : List (S30), y_ = (([(⟨(rd_T35 t443 t444).f0, t450⟩ : S30)] : List (S30))) := ⟨_, rfl⟩
 replace H : (some (y451, 0)) = some (r1, r2) := by first | (rw [hy451]; with_reducible exact H) | (have H2_ := (Option.bind_some _ _).symm.trans H; rw [hy451]; with_reducible exact H2_) | (have H2_ := (Option.bind_some _ _).symm.trans H; with_reducible exact H2_) | with_reducible exact H | (rw [hy451]; exact H) | exact H
 have Ny451 := Aside0.mk hy451
 clear hy451
 simp only [Option.some.injEq, Prod.mk.injEq] at H
 obtain ⟨rfl, rfl⟩ := H
 go_enter Try.func47, Try.ntmps47
 try go_wp2_with (first | ((with_reducible refine gate_callee (f := 52) rfl ?_); refine goesL_ (some 12) rfl rfl Try.func52 (by kernel_rfl) rfl #[.slice A0 l0.length c0] rfl (by (try simp only [qj, qk, ql]); first | done | rfl | (simp only [qm, qn]; rfl)) ?_; (with_reducible refine (darningref4_Blocks.calls k _ _ l0 t438 true _ ?side1 ?side2 A3.out).mono ?_); (case side1 => exact zc HR0.out); (case side2 => exact HC0.out); rintro e w11 ⟨v440, rfl, ho0, hb⟩; refine ⟨_, rfl, ?_⟩; have n0_ := Aside0.mk (Kd.R_lower ho0 (below_size (zB HB))); have n1_ := zb HB hb; clear HB; have HO441 := n0_; have HB := n1_; clear n0_ n1_; (try clear hb); (try clear ho0); obtain ⟨Ao12, co12, eo12⟩ := Kd.R_slice HO441.out; subst eo12) | ((with_reducible refine gate_callee (f := 53) rfl ?_); refine goesL_ (some 21) rfl rfl Try.func53 (by kernel_rfl) rfl #[.slice Ao12 t438.length co12, .int .i64 a1] rfl (by (try simp only [qj, qk, ql]); first | done | rfl | (simp only [qm, qn]; rfl)) ?_; (with_reducible refine (darningref4_Is.calls k _ _ t438 a1 t442 _ ?side1 ?side2 A5.out).mono ?_); (case side1 => exact zc (Kd.R_reads' HO441.out).2.2); (case side2 => exact (Kd.R_reads' HO441.out).2.1); rintro e w13 ⟨rfl, hb⟩; refine ⟨_, rfl, ?_⟩; have n0_ := za HO441 hb; have n1_ := zb HB hb; replace HO441 := n0_; replace HB := n1_; clear n0_ n1_; (try clear hb)) | ((with_reducible refine gate_callee (f := 17) rfl ?_); refine goesL_ (some 22) rfl rfl Try.func17 (by kernel_rfl) rfl #[.slice Ao12 t438.length co12, .int .i64 t442] rfl (by (try simp only [qj, qk, ql]); first | done | rfl | (simp only [qm, qn]; rfl)) ?_; (with_reducible refine (darningref4_Merged.calls k _ _ t438 t442 t443 t444 true _ ?side1 ?side2 A6.out).mono ?_); (case side1 => exact zc (Kd.R_reads' HO441.out).2.2); (case side2 => exact (Kd.R_reads' HO441.out).2.1); rintro e w14 ⟨v446, rfl, ho0, hb⟩; refine ⟨_, rfl, ?_⟩; have n0_ := Aside0.mk (Kd.R_elder' (zr HO441) (Kd.R_base ho0) hb); have n1_ := Aside0.mk (Kd.R_lower (Kd.R_new' ho0 (Kd.R_lt (zr HO441))) (below_size (zB HB))); have n2_ := zb HB hb; clear HO441; clear HB; have HO441 := n0_; have HO447 := n1_; have HB := n2_; clear n0_ n1_ n2_; (try clear hb); (try clear ho0)))
 have n0_ := Aside0.mk (qc HO441.out)
 have n1_ := Aside0.mk (qc HO447.out)
 have n2_ := Aside0.mk (qf HB.out)
 clear HO441
 clear HO447
 clear HB
 have HO441 := n0_
 have HO447 := n1_
 have HB := n2_
 clear n0_ n1_ n2_
 obtain ⟨Ao16, co16, eo16⟩ := Kd.R_slice HO447.out
 (first | subst eo16 | (injection eo16 with f1_ f2_ f3_; have f4_ := f1_.symm; have f5_ := f3_.symm; clear f1_ f2_ f3_; subst f4_; subst f5_))
 have p448 : 0 ≤ (t444 : Int) := zu
 have q448 : t444 < (t443.length : Int) := zu
 obtain ⟨ad448, e448, hx448_0, hx448_1, hx448_2⟩ := at_T35 (Kd.R_reads' HO447.out).2.2 t444 p448 q448
 cases e448
 replace p448 := eq_true p448
 replace q448 := eq_true q448
 have p449 : 0 ≤ (t444 : Int) := zu
 have q449 : t444 < (t443.length : Int) := zu
 obtain ⟨ad449, e449, hx449_0, hx449_1, hx449_2⟩ := at_T35 (Kd.R_reads' HO447.out).2.2 t444 p449 q449
 obtain rfl : ad448 = ad449 := (by injection e449)
 replace p449 := eq_true p449
 replace q449 := eq_true q449
 refine start_ (n := 15) (S := fun w' => w'.cell? (ad448.add ((t444).toNat * 3)) = some (.int .i64 ((rd_T35 t443 t444).f0)) ∧ w'.cell? ⟨(ad448.add ((t444).toNat * 3)).block, (ad448.add ((t444).toNat * 3)).off + 1, none⟩ = some (.int .i64 ((rd_T35 t443 t444).f1)) ∧ w'.cell? ⟨(ad448.add ((t444).toNat * 3)).block, (ad448.add ((t444).toNat * 3)).off + 2, none⟩ = some (.bool ((rd_T35 t443 t444).f2)) ∧ w'.cell? (ad448.add ((t444).toNat * 3)) = some (.int .i64 ((rd_T35 t443 t444).f0)) ∧ w'.cell? ⟨(ad448.add ((t444).toNat * 3)).block, (ad448.add ((t444).toNat * 3)).off + 1, none⟩ = some (.int .i64 ((rd_T35 t443 t444).f1)) ∧ w'.cell? ⟨(ad448.add ((t444).toNat * 3)).block, (ad448.add ((t444).toNat * 3)).off + 2, none⟩ = some (.bool ((rd_T35 t443 t444).f2))) (ds := []) (onA 15 0) (by kernel_rfl) rfl rfl ⟨hx448_0, hx448_1, hx448_2, hx449_0, hx449_1, hx449_2⟩ (fun hHeld => ?_); refine with_tabW darningref4_ImageFree.tab7 darningref4_ImageFree.bits7 (fun HT_ HW_ => ?_)
 generalize w14.drew = w15 at HO441 HO447 HB hx448_0 hx448_1 hx448_2 hx449_0 hx449_1 hx449_2 hHeld ⊢
 refine pu 0 (some 28) (onA 15 1) HT_ (h := ?_)
 refine pu 1 (some 29) (onA 15 2) HT_ (h := ?_)
 refine pu 2 (some 30) (onA 15 3) HT_ (h := ?_)
 refine pu 3 (some 31) (onA 15 4) HT_ (h := ?_)
 refine pu 5 (some 33) #[tt_,tt_,tt_,tt_,ff_,tt_,ff_,ff_,ff_,ff_,ff_,ff_,ff_,ff_,ff_] HT_ (h := ?_)
 refine pu 6 (some 34) #[tt_,tt_,tt_,tt_,ff_,tt_,tt_,ff_,ff_,ff_,ff_,ff_,ff_,ff_,ff_] HT_ (h := ?_)
 refine pu 7 (some 35) #[tt_,tt_,tt_,tt_,ff_,tt_,tt_,tt_,ff_,ff_,ff_,ff_,ff_,ff_,ff_] HT_ (h := ?_)
 refine pu 8 (some 36) #[tt_,tt_,tt_,tt_,ff_,tt_,tt_,tt_,tt_,ff_,ff_,ff_,ff_,ff_,ff_] HT_ (h := ?_)
 refine take_ (i := 4) (N := some 32) (v := ?_) (a' := ?_) (onA 15 9) rfl rfl (take_ofW HT_.out HW_.out (by kernel_rfl)) (fun _ _ _ h => h) (Or.inl ⟨by rfl, ?_⟩) hHeld ?_ ?_
 rotate_left
 ·
  rintro w' ⟨s0, s1, s2, s3, s4, s5⟩
  go_simp
  with_reducible rfl
 rotate_left
 ·
  simp only [Act.put, qg, qh, qi, i64_w, i32_w]
  rfl
 refine take_ (i := 9) (N := some 37) (v := ?_) (a' := ?_) (onA 15 10) rfl rfl (take_ofW HT_.out HW_.out (by kernel_rfl)) (fun _ _ _ h => h) (Or.inl ⟨by rfl, ?_⟩) hHeld ?_ ?_
 rotate_left
 ·
  rintro w' ⟨s0, s1, s2, s3, s4, s5⟩
  go_simp
  with_reducible rfl
 rotate_left
 ·
  simp only [Act.put, qg, qh, qi, i64_w, i32_w]
  rfl
 refine one_ (i := 10) (N := some 38) (onA 15 11) rfl rfl (one_of HT_.out (by kernel_rfl)) (by decide) (fun K hK => ?_)
 refine goes_ Try.func20 (by kernel_rfl) rfl #[.int .i64 ((rd_T35 t443 t444).f1), .bool false] (by rfl) rfl rfl (by (try simp only [qj, qk, ql]); first | done | rfl | (simp only [qm, qn]; rfl)) ?_
 with_reducible refine (darningref4_Word.calls ((rd_T35 t443 t444).f1) false t450 _ A10.out).mono ?_
 rintro e w' ⟨rfl, ⟨nd, rfl⟩⟩
 refine ⟨_, rfl, ?_⟩
 refine hK.out _ _ ⟨hHeld.1, hHeld.2.1, hHeld.2.2.1, hHeld.2.2.2.1, hHeld.2.2.2.2.1, hHeld.2.2.2.2.2⟩ (fun hHeld => ?_)
 clear hK K
 refine norm_ (a' := ?_) ?_ ?_
 rotate_left
 ·
  show Act.put _ (some 38) _ = _
  simp only [Act.put, qg, qh, qi, i64_w, i32_w]
  rfl
 refine pu 11 (some 39) (onA 15 12) HT_ (h := ?_)
 refine one_ (i := 12) (N := some 40) (onA 15 13) rfl rfl (one_of HT_.out (by kernel_rfl)) (by decide) (fun K hK => ?_)
 refine Kd.R_lit_step k30 _ 30 ?hg (N := 40) ?hd (xs := ([(⟨(rd_T35 t443 t444).f0, t450⟩ : S30)] : List (S30))) (inner := [.int .i64 ((rd_T35 t443 t444).f0), .int .u64 t450]) (ok := fun _ => True) (okp := fun _ => True) ?hr ?hp (fun _ hk => hk) trivial (Below.refl _ _) (Nat.le_refl _) (by simp) ?_; (case hd => rfl); (case hg => rfl); (case hr => first | (go_simp; done) | (go_simp; rfl)); (case hp => exact (Reps.c2 (show Kd.M k30 _ _ _ (⟨(rd_T35 t443 t444).f0, t450⟩ : S30) [.int .i64 ((rd_T35 t443 t444).f0), .int .u64 t450] from (k30_mkM _ _ _ (⟨(rd_T35 t443 t444).f0, t450⟩ : S30) )) (Reps.none _ _)))
 intro v452 w17 ho18 hb hg_ hnew_
 have HS0_ := (hb.cell (qp _ _ (hHeld.1))).trans (hHeld.1)
 have HS1_ := (hb.cell (qp _ _ (hHeld.2.1))).trans (hHeld.2.1)
 have HS2_ := (hb.cell (qp _ _ (hHeld.2.2.1))).trans (hHeld.2.2.1)
 have HS3_ := (hb.cell (qp _ _ (hHeld.2.2.2.1))).trans (hHeld.2.2.2.1)
 have HS4_ := (hb.cell (qp _ _ (hHeld.2.2.2.2.1))).trans (hHeld.2.2.2.2.1)
 have HS5_ := (hb.cell (qp _ _ (hHeld.2.2.2.2.2))).trans (hHeld.2.2.2.2.2)
 clear hg_ hnew_
 (first | rw [← Ny451.out] at ho18 | (simp only [Int.reduceToNat] at ho18; rw [← Ny451.out] at ho18))
 have n0_ := za HO441 hb
 have n1_ := za HO447 hb
 have n2_ := Aside0.mk (Kd.R_lower ho18 (below_size (zB HB)))
 have n3_ := zb HB hb
 clear HO441
 clear HO447
 clear HB
 have HO441 := n0_
 have HO447 := n1_
 have HO453 := n2_
 have HB := n3_
 clear n0_ n1_ n2_ n3_
 clear hb ho18
 refine hK.out _ _ ⟨HS0_, HS1_, HS2_, HS3_, HS4_, HS5_⟩ (fun hHeld => ?_)
 clear hK K
 refine norm_ (a' := ?_) ?_ ?_
 rotate_left
 ·
  show Act.put _ (some 40) _ = _
  simp only [Act.put, qg, qh, qi, i64_w, i32_w]
  rfl
 refine pu 13 (some 4) (onA 15 14) HT_ (h := ?_)
 refine pu 14 (some 5) (onA 15 15) HT_ (h := ?_)
 refine done_ (done_of HT_.out (by kernel_rfl)) ?_
 try go_wp2
 go_ret2
 exact ⟨_, by first | rfl | (simp [errW_none, errW_some] <;> rfl) | (simp [*, errW_none, errW_some] <;> rfl), by (with_reducible repeat (first | apply qa | apply qb | apply qc)); exact HO453.out, zB HB⟩

/-! ### darningref4_Within: function 54 -/
mutual
def darningref4_Within.j0 : Nat → List (S35) → Int → Int → Bool → Option (Bool)
 | 0, _, _, _, _ => none
 | k + 1, x0, x1, x2, x15 => if x15 = true then (some false) else (darningref4_Within.l0 k x1 x2 x0 (x0.length : Int) 0)
def darningref4_Within.l0 : Nat → Int → Int → List (S35) → Int → Int → Option (Bool)
 | 0, _, _, _, _, _ => none
 | k + 1, x1, x2, x16, x17, x18 => if x18 < x17 then (if 0 ≤ x18 then (if x18 < (x16.length : Int) then (if (rd_T35 x16 x18).f2 = true then ((darningref4_Off.f ((rd_T35 x16 x18).f0) ((rd_T35 x16 x18).f1) ((rd_T35 x16 x18).f2)).bind fun t456 => (if x1 ≥ t456 then (if x1 ≤ (wrap64 ((wrap64 (((rd_T35 x16 x18).f0) + ((rd_T35 x16 x18).f1))) * 8)) then (darningref4_Within.j2 k x1 x2 x16 x17 x18 (decide (x2 ≤ (wrap64 ((wrap64 ((wrap64 (((rd_T35 x16 x18).f0) + ((rd_T35 x16 x18).f1))) * 8)) - x1))))) else (darningref4_Within.j2 k x1 x2 x16 x17 x18 false)) else (darningref4_Within.j2 k x1 x2 x16 x17 x18 false))) else (darningref4_Within.j2 k x1 x2 x16 x17 x18 false)) else (none)) else (none)) else (some false)
def darningref4_Within.j2 : Nat → Int → Int → List (S35) → Int → Int → Bool → Option (Bool)
 | 0, _, _, _, _, _, _ => none
 | k + 1, x1, x2, x16, x17, x18, x47 => if x47 = true then (some true) else (darningref4_Within.l0 k x1 x2 x16 x17 (wrap64 (x18 + 1)))
end
def darningref4_Within.f (k : Nat) (l0 : List (S35)) (a1 : Int) (a2 : Int) : Option (Bool) := if a2 < 0 then (darningref4_Within.j0 k l0 a1 a2 true) else (darningref4_Within.j0 k l0 a1 a2 (decide (a2 > 448)))
theorem darningref4_Within.mono_l : ∀ k, (∀ y0 y1 y2 y3, LeO (darningref4_Within.j0 k y0 y1 y2 y3) (darningref4_Within.j0 (k + 1) y0 y1 y2 y3)) ∧ (∀ y0 y1 y2 y3 y4, LeO (darningref4_Within.l0 k y0 y1 y2 y3 y4) (darningref4_Within.l0 (k + 1) y0 y1 y2 y3 y4)) ∧ (∀ y0 y1 y2 y3 y4 y5, LeO (darningref4_Within.j2 k y0 y1 y2 y3 y4 y5) (darningref4_Within.j2 (k + 1) y0 y1 y2 y3 y4 y5))
 | 0 => ⟨fun _ _ _ _ r h => by simp [darningref4_Within.j0] at h, fun _ _ _ _ _ r h => by simp [darningref4_Within.l0] at h, fun _ _ _ _ _ _ r h => by simp [darningref4_Within.j2] at h⟩
 | k + 1 => by
  obtain ⟨ih0, ih1, ih2⟩ := darningref4_Within.mono_l k
  refine ⟨?_, ?_, ?_⟩
  ·
   intro y0 y1 y2 y3
   unfold darningref4_Within.j0
   repeat' first
   | (with_reducible exact ih0 _ _ _ _)
   | (with_reducible exact ih1 _ _ _ _ _)
   | (with_reducible exact ih2 _ _ _ _ _ _)
   | (with_reducible exact LeO.refl _)
   | (with_reducible exact LeO.none _)
   | (with_reducible refine LeO.ite ?_ ?_)
   | (with_reducible refine LeO.bind ?_ (fun _ => ?_))
   | exact ih0 _ _ _ _
   | exact ih1 _ _ _ _ _
   | exact ih2 _ _ _ _ _ _
   | exact LeO.none _
   | refine LeO.ite ?_ ?_
   | refine LeO.bind ?_ (fun _ => ?_)
  ·
   intro y0 y1 y2 y3 y4
   unfold darningref4_Within.l0
   repeat' first
   | (with_reducible exact ih0 _ _ _ _)
   | (with_reducible exact ih1 _ _ _ _ _)
   | (with_reducible exact ih2 _ _ _ _ _ _)
   | (with_reducible exact LeO.refl _)
   | (with_reducible exact LeO.none _)
   | (with_reducible refine LeO.ite ?_ ?_)
   | (with_reducible refine LeO.bind ?_ (fun _ => ?_))
   | exact ih0 _ _ _ _
   | exact ih1 _ _ _ _ _
   | exact ih2 _ _ _ _ _ _
   | exact LeO.none _
   | refine LeO.ite ?_ ?_
   | refine LeO.bind ?_ (fun _ => ?_)
  ·
   intro y0 y1 y2 y3 y4 y5
   unfold darningref4_Within.j2
   repeat' first
   | (with_reducible exact ih0 _ _ _ _)
   | (with_reducible exact ih1 _ _ _ _ _)
   | (with_reducible exact ih2 _ _ _ _ _ _)
   | (with_reducible exact LeO.refl _)
   | (with_reducible exact LeO.none _)
   | (with_reducible refine LeO.ite ?_ ?_)
   | (with_reducible refine LeO.bind ?_ (fun _ => ?_))
   | exact ih0 _ _ _ _
   | exact ih1 _ _ _ _ _
   | exact ih2 _ _ _ _ _ _
   | exact LeO.none _
   | refine LeO.ite ?_ ?_
   | refine LeO.bind ?_ (fun _ => ?_)
theorem darningref4_Within.mono : ∀ a0 a1 a2 k, LeO (darningref4_Within.f k a0 a1 a2) (darningref4_Within.f (k + 1) a0 a1 a2) := by
 intro a0 a1 a2 k
 obtain ⟨ih0, ih1, ih2⟩ := darningref4_Within.mono_l k
 unfold darningref4_Within.f
 repeat' first
   | (with_reducible exact ih0 _ _ _ _)
   | (with_reducible exact ih1 _ _ _ _ _)
   | (with_reducible exact ih2 _ _ _ _ _ _)
   | (with_reducible exact LeO.refl _)
   | (with_reducible exact LeO.none _)
   | (with_reducible refine LeO.ite ?_ ?_)
   | (with_reducible refine LeO.bind ?_ (fun _ => ?_))
   | exact ih0 _ _ _ _
   | exact ih1 _ _ _ _ _
   | exact ih2 _ _ _ _ _ _
   | exact LeO.none _
   | refine LeO.ite ?_ ?_
   | refine LeO.bind ?_ (fun _ => ?_)
set_option maxHeartbeats 8000000 in
set_option maxRecDepth 100000 in
theorem darningref4_Within.calls (k : Nat) (A0 : Option Addr) (c0 : Nat) (l0 : List (S35)) (a1 : Int) (a2 : Int) (r : Bool) (w : World) (hr0 : Kd.C k35 w A0 l0.length l0) (hc0 : l0.length ≤ c0) (h : darningref4_Within.f k l0 a1 a2 = some r) :
  Calls Try.prog 54 #[.slice A0 l0.length c0, .int .i64 a1, .int .i64 a2] w fun e w' => e = .returned (.bool r) ∧ Below w.heap.size w w' := by
 have hu35 := Try.underlying35
 have HR0 := Aside0.mk hr0
 have HC0 := Aside0.mk hc0
 clear hr0 hc0
 have HB := Aside0.mk (Below.refl w.heap.size w)
 have H : (if a2 < 0 then (darningref4_Within.j0 k l0 a1 a2 true) else (darningref4_Within.j0 k l0 a1 a2 (decide (a2 > 448)))) = some r := h
 clear h
 have HC4 := Aside0.mk H
 clear H
 go_enter Try.func54, Try.ntmps54
 go_upto_region 1 with (fail)
 go_cut [15] (fun v15 wc => ∃ (kq : Nat) (x15_3 : Bool), v15 = .bool x15_3 ∧ Aside0 (darningref4_Within.j0 kq l0 a1 a2 x15_3 = some r) ∧ Aside0 (kq ≤ k) ∧ Aside0 (Below w.heap.size w wc))
 case first =>
  have H := HC4.out
  clear HC4
  by_cases c5 : a2 < 0
  ·
   rw [if_pos c5] at H
   have c5b0 : decide (a2 < 0) = true := decide_eq_true c5
   clear c5
   (first | rw [c5b0] | (simp only [i64_w, i32_w]; rw [c5b0]) | skip)
   have H' := Aside0.mk H
   clear H
   go_wp2
   go_meet
   case rel => exact ⟨_, (true), (by first | rfl | (simp; done) | (simp [*]; done)), H', ⟨by first | omega | exact Nat.le_refl _⟩, ⟨zB HB⟩⟩
  rw [if_neg c5] at H
  have c5b0 : decide (a2 < 0) = false := decide_eq_false c5
  clear c5
  (first | rw [c5b0] | (simp only [i64_w, i32_w]; rw [c5b0]) | skip)
  have H' := Aside0.mk H
  clear H
  go_wp2
  go_meet
  case rel => exact ⟨_, (decide (a2 > 448)), (by first | rfl | (simp; done) | (simp [*]; done)), H', ⟨by first | omega | exact Nat.le_refl _⟩, ⟨zB HB⟩⟩
 clear HC4
 try clear p2
 try clear c5
 try clear c5b0
 obtain ⟨kq, x15_3, rfl, HA, HJ3, HB⟩ := hcut
 cases kq with
 | zero => exact absurd HA.out (by simp [darningref4_Within.j0])
 | succ kj3 =>
  have H := HA.out
  clear HA
  simp only [darningref4_Within.j0] at H
  by_cases c6 : x15_3 = true
  ·
   subst c6
   have H1 : (some false) = some r := by rw [if_pos rfl] at H; exact H
   clear H
   have H := H1
   clear H1
   obtain rfl := Option.some.inj H
   go_wp2
   go_ret
   exact ⟨by first | rfl | (simp [errW_none, errW_some] <;> rfl) | (simp [*, errW_none, errW_some] <;> rfl), zB HB⟩
  replace c6 := Bool.eq_false_iff.mpr c6
  subst c6
  have H1 : (darningref4_Within.l0 kj3 a1 a2 l0 (l0.length : Int) 0) = some r := by rw [if_neg (show ¬ (false = true) by decide)] at H; exact H
  clear H
  have H := H1
  clear H1
  have H' := Aside0.mk H
  clear H
  go_wp2
  go_loopg [18] kj3 (fun kq v18 w' => ∃ (x18_2 : Int), v18 = .int .i64 x18_2 ∧ Aside0 (darningref4_Within.l0 kq a1 a2 l0 (l0.length : Int) x18_2 = some r) ∧ Aside0 (kq ≤ kj3) ∧ Aside0 (Below w.heap.size w w'))
  case atStart => exact ⟨(0), (by first | rfl | (simp; done) | (simp [*]; done)), H', ⟨Nat.le_refl _⟩, ⟨zB HB⟩⟩
  case round =>
   clear H'
   try clear p2
   try clear c5
   try clear c5b0
   try clear c6
   try clear p2
   obtain ⟨x18_2, rfl, HA, HK2, HB⟩ := hrel
   cases gk with
   | zero => exact absurd HA.out (by simp [darningref4_Within.l0])
   | succ k2 =>
    have H := HA.out
    clear HA
    simp only [darningref4_Within.l0] at H
    by_cases c7 : x18_2 < (l0.length : Int)
    rotate_left
    ·
     rw [if_neg c7] at H
     have c7b0 : decide (x18_2 < (l0.length : Int)) = false := decide_eq_false c7
     clear c7
     obtain rfl := Option.some.inj H
     go_wp2
     go_ret
     exact ⟨by first | rfl | (simp [errW_none, errW_some] <;> rfl) | (simp [*, errW_none, errW_some] <;> rfl), zB HB⟩
    rw [if_pos c7] at H
    have c7b0 : decide (x18_2 < (l0.length : Int)) = true := decide_eq_true c7
    clear c7
    by_cases c8 : 0 ≤ x18_2
    rotate_left
    ·
     rw [if_neg c8] at H
     exact absurd H (by simp)
    rw [if_pos c8] at H
    have c8b0 : decide (0 ≤ x18_2) = true := decide_eq_true c8
    clear c8
    by_cases c9 : x18_2 < (l0.length : Int)
    rotate_left
    ·
     rw [if_neg c9] at H
     exact absurd H (by simp)
    rw [if_pos c9] at H
    have c9b0 : decide (x18_2 < (l0.length : Int)) = true := decide_eq_true c9
    clear c9
    have HC10 := Aside0.mk H
    clear H
    have p454 : 0 ≤ (x18_2 : Int) := zu
    have q454 : x18_2 < (l0.length : Int) := zu
    obtain ⟨ad454, e454, hx454_0, hx454_1, hx454_2⟩ := at_T35 HR0.out x18_2 p454 q454
    cases e454
    replace hx454_0 := zw HB hx454_0
    replace hx454_1 := zw HB hx454_1
    replace hx454_2 := zw HB hx454_2
    replace p454 := eq_true p454
    replace q454 := eq_true q454
    go_upto_region 7 with (first | ((with_reducible refine gate_dst (N := 8) rfl ?_); refine box_event ?hg (N := 8) ?hd (cs := #[.int .i64 0, .int .i64 0, .bool false]) (t := 35) ?hr ?_; (case hd => rfl); (case hg => rfl); (case hr => first | (go_simp; done) | (go_simp; rfl)); intro gb455 hg w11 hbox hb; have n0_ := zb HB hb; have n1_ := Aside0.mk (hbox); have n2_ := Aside0.mk ((by rw [hg]; exact (below_size (zB HB)) : w.heap.size ≤ gb455)); have n3_ := Aside0.mk ((by rw [hg]; exact (below_size (zB HB)) : w.heap.size ≤ gb455)); clear HB; have HB := n0_; have BK455 := n1_; have GW455 := n2_; have GE455 := n3_; clear n0_ n1_ n2_ n3_; clear hb hbox hg; have hcz12_0 : w11.cell? ⟨gb455, 0, none⟩ = some (.int .i64 0) := (blk_cell BK455.out 0).trans rfl; have hcz12_1 : w11.cell? ⟨gb455, 1, none⟩ = some (.int .i64 0) := (blk_cell BK455.out 1).trans rfl; have hcz12_2 : w11.cell? ⟨gb455, 2, none⟩ = some (.bool false) := (blk_cell BK455.out 2).trans rfl; have hfz12_0 := blk_frozen BK455.out 0; have hfz12_1 := blk_frozen BK455.out 1; have hfz12_2 := blk_frozen BK455.out 2))
    (try simp only [Act.put, qg, qh, qi])
    go_cut [47] (fun v47 wc => ∃ (kq : Nat) (x47_9 : Bool), v47 = .bool x47_9 ∧ Aside0 (darningref4_Within.j2 kq a1 a2 l0 (l0.length : Int) x18_2 x47_9 = some r) ∧ Aside0 (kq ≤ k2) ∧ Aside0 (wc.heap[gb455]? = some (.cells #[.int .i64 ((rd_T35 l0 x18_2).f0), .int .i64 ((rd_T35 l0 x18_2).f1), .bool ((rd_T35 l0 x18_2).f2)] 35 (0, 0))) ∧ Aside0 (Below w.heap.size w wc))
    case first =>
     have H := HC10.out
     clear HC10
     first | (generalize hbq13 : (rd_T35 l0 x18_2).f2 = bq13 at *; replace hbq13 := hbq13.symm) | (obtain ⟨bq13, hbq13⟩ : ∃ b_ : Bool, b_ = ((rd_T35 l0 x18_2).f2) := ⟨_, rfl⟩)
     replace H : (if bq13 = true then ((darningref4_Off.f ((rd_T35 l0 x18_2).f0) ((rd_T35 l0 x18_2).f1) bq13).bind fun t456 => (if a1 ≥ t456 then (if a1 ≤ (wrap64 ((wrap64 (((rd_T35 l0 x18_2).f0) + ((rd_T35 l0 x18_2).f1))) * 8)) then (darningref4_Within.j2 k2 a1 a2 l0 (l0.length : Int) x18_2 (decide (a2 ≤ (wrap64 ((wrap64 ((wrap64 (((rd_T35 l0 x18_2).f0) + ((rd_T35 l0 x18_2).f1))) * 8)) - a1))))) else (darningref4_Within.j2 k2 a1 a2 l0 (l0.length : Int) x18_2 false)) else (darningref4_Within.j2 k2 a1 a2 l0 (l0.length : Int) x18_2 false))) else (darningref4_Within.j2 k2 a1 a2 l0 (l0.length : Int) x18_2 false)) = some r := by first | exact H | (rw [← hbq13] at H; exact H)
     have Nbq13 := Aside0.mk hbq13
     clear hbq13
     (try rw [← Nbq13.out])
     by_cases c14 : bq13 = true
     rotate_left
     ·
      replace c14 := Bool.eq_false_iff.mpr c14
      subst c14
      have H1 : (darningref4_Within.j2 k2 a1 a2 l0 (l0.length : Int) x18_2 false) = some r := by rw [if_neg (show ¬ (false = true) by decide)] at H; exact H
      clear H
      have H := H1
      clear H1
      have H' := Aside0.mk H
      clear H
      have hcz24_0 : w11.cell? ⟨gb455, 0, none⟩ = some (.int .i64 0) := (blk_cell BK455.out 0).trans rfl
      have hcz24_1 : w11.cell? ⟨gb455, 1, none⟩ = some (.int .i64 0) := (blk_cell BK455.out 1).trans rfl
      have hcz24_2 : w11.cell? ⟨gb455, 2, none⟩ = some (.bool false) := (blk_cell BK455.out 2).trans rfl
      have hfz24_0 := blk_frozen BK455.out 0
      have hfz24_1 := blk_frozen BK455.out 1
      have hfz24_2 := blk_frozen BK455.out 2
      go_wp2
      go_meet
      case rel => (try simp only [← Nbq13.out]); exact ⟨_, (false), (by first | rfl | (simp; done) | (simp [*]; done)), H', ⟨by have := HJ3.out; have := HK2.out; first | omega | exact Nat.le_refl _⟩, ⟨by (with_reducible repeat (first | refine blk_drewN ?_ _ | refine blk_drew ?_ | refine blk_alloc ?_ _)); refine blk_put (cs := #[.int .i64 ((rd_T35 l0 x18_2).f0), .int .i64 ((rd_T35 l0 x18_2).f1), .bool false]) ?_ 2 _ rfl; (with_reducible repeat (first | refine blk_drewN ?_ _ | refine blk_drew ?_ | refine blk_alloc ?_ _)); refine blk_put (cs := #[.int .i64 ((rd_T35 l0 x18_2).f0), .int .i64 0, .bool false]) ?_ 1 _ rfl; (with_reducible repeat (first | refine blk_drewN ?_ _ | refine blk_drew ?_ | refine blk_alloc ?_ _)); refine blk_put (cs := #[.int .i64 0, .int .i64 0, .bool false]) ?_ 0 _ rfl; (with_reducible repeat (first | refine blk_drewN ?_ _ | refine blk_drew ?_ | refine blk_alloc ?_ _)); exact BK455.out⟩, ⟨by repeat (first | (with_reducible first | exact HB.out | apply qd | apply qe | apply qf | refine below_set ?_ GE455.out) | exact HB.out)⟩⟩
     subst c14
     have H1 : ((darningref4_Off.f ((rd_T35 l0 x18_2).f0) ((rd_T35 l0 x18_2).f1) true).bind fun t456 => (if a1 ≥ t456 then (if a1 ≤ (wrap64 ((wrap64 (((rd_T35 l0 x18_2).f0) + ((rd_T35 l0 x18_2).f1))) * 8)) then (darningref4_Within.j2 k2 a1 a2 l0 (l0.length : Int) x18_2 (decide (a2 ≤ (wrap64 ((wrap64 ((wrap64 (((rd_T35 l0 x18_2).f0) + ((rd_T35 l0 x18_2).f1))) * 8)) - a1))))) else (darningref4_Within.j2 k2 a1 a2 l0 (l0.length : Int) x18_2 false)) else (darningref4_Within.j2 k2 a1 a2 l0 (l0.length : Int) x18_2 false))) = some r := by rw [if_pos rfl] at H; exact H
     clear H
     have H := H1
     clear H1
     replace H := Option.bind_eq_some_iff.mp H
     obtain ⟨t456, A150, H⟩ := H
     replace H : (if a1 ≥ t456 then (if a1 ≤ (wrap64 ((wrap64 (((rd_T35 l0 x18_2).f0) + ((rd_T35 l0 x18_2).f1))) * 8)) then (darningref4_Within.j2 k2 a1 a2 l0 (l0.length : Int) x18_2 (decide (a2 ≤ (wrap64 ((wrap64 ((wrap64 (((rd_T35 l0 x18_2).f0) + ((rd_T35 l0 x18_2).f1))) * 8)) - a1))))) else (darningref4_Within.j2 k2 a1 a2 l0 (l0.length : Int) x18_2 false)) else (darningref4_Within.j2 k2 a1 a2 l0 (l0.length : Int) x18_2 false)) = some r := H
     have A15 := Aside0.mk A150
     clear A150
     by_cases c16 : a1 ≥ t456
     rotate_left
     ·
      rw [if_neg c16] at H
      have c16b0 : decide (t456 ≤ a1) = false := decide_eq_false c16
      clear c16
      have H' := Aside0.mk H
      clear H
      have hcz22_0 : w11.cell? ⟨gb455, 0, none⟩ = some (.int .i64 0) := (blk_cell BK455.out 0).trans rfl
      have hcz22_1 : w11.cell? ⟨gb455, 1, none⟩ = some (.int .i64 0) := (blk_cell BK455.out 1).trans rfl
      have hcz22_2 : w11.cell? ⟨gb455, 2, none⟩ = some (.bool false) := (blk_cell BK455.out 2).trans rfl
      have hfz22_0 := blk_frozen BK455.out 0
      have hfz22_1 := blk_frozen BK455.out 1
      have hfz22_2 := blk_frozen BK455.out 2
      go_wp2_with (first | (go_at_call 29; (with_reducible refine (darningref4_Off.calls ((rd_T35 l0 x18_2).f0) ((rd_T35 l0 x18_2).f1) true t456 _ A15.out).mono ?_); rintro e w23 ⟨rfl, hb⟩; have n0_ := Aside0.mk (blk_below (g := gb455) (o := .cells #[.int .i64 ((rd_T35 l0 x18_2).f0), .int .i64 ((rd_T35 l0 x18_2).f1), .bool true] 35 (0, 0)) (by (with_reducible repeat (first | refine blk_drewN ?_ _ | refine blk_drew ?_ | refine blk_alloc ?_ _)); refine blk_put (cs := #[.int .i64 ((rd_T35 l0 x18_2).f0), .int .i64 ((rd_T35 l0 x18_2).f1), .bool false]) ?_ 2 _ rfl; (with_reducible repeat (first | refine blk_drewN ?_ _ | refine blk_drew ?_ | refine blk_alloc ?_ _)); refine blk_put (cs := #[.int .i64 ((rd_T35 l0 x18_2).f0), .int .i64 0, .bool false]) ?_ 1 _ rfl; (with_reducible repeat (first | refine blk_drewN ?_ _ | refine blk_drew ?_ | refine blk_alloc ?_ _)); refine blk_put (cs := #[.int .i64 0, .int .i64 0, .bool false]) ?_ 0 _ rfl; (with_reducible repeat (first | refine blk_drewN ?_ _ | refine blk_drew ?_ | refine blk_alloc ?_ _)); exact BK455.out) hb); have n1_ := Aside0.mk (qw (by repeat (first | (with_reducible first | exact HB.out | apply qd | apply qe | apply qf | refine below_set ?_ GE455.out) | exact HB.out)) hb); replace BK455 := n0_; replace HB := n1_; clear n0_ n1_; (try clear hb)))
      go_meet
      case rel => (try simp only [← Nbq13.out]); exact ⟨_, (false), (by first | rfl | (simp; done) | (simp [*]; done)), H', ⟨by have := HJ3.out; have := HK2.out; first | omega | exact Nat.le_refl _⟩, ⟨by (with_reducible repeat (first | refine blk_drewN ?_ _ | refine blk_drew ?_ | refine blk_alloc ?_ _)); exact BK455.out⟩, ⟨by repeat (first | (with_reducible first | exact HB.out | apply qd | apply qe | apply qf | refine below_set ?_ GE455.out) | exact HB.out)⟩⟩
     rw [if_pos c16] at H
     have c16b0 : decide (t456 ≤ a1) = true := decide_eq_true c16
     clear c16
     by_cases c17 : a1 ≤ (wrap64 ((wrap64 (((rd_T35 l0 x18_2).f0) + ((rd_T35 l0 x18_2).f1))) * 8))
     rotate_left
     ·
      rw [if_neg c17] at H
      have c17b0 : decide (a1 ≤ (wrap64 ((wrap64 (((rd_T35 l0 x18_2).f0) + ((rd_T35 l0 x18_2).f1))) * 8))) = false := decide_eq_false c17
      clear c17
      have H' := Aside0.mk H
      clear H
      have hcz20_0 : w11.cell? ⟨gb455, 0, none⟩ = some (.int .i64 0) := (blk_cell BK455.out 0).trans rfl
      have hcz20_1 : w11.cell? ⟨gb455, 1, none⟩ = some (.int .i64 0) := (blk_cell BK455.out 1).trans rfl
      have hcz20_2 : w11.cell? ⟨gb455, 2, none⟩ = some (.bool false) := (blk_cell BK455.out 2).trans rfl
      have hfz20_0 := blk_frozen BK455.out 0
      have hfz20_1 := blk_frozen BK455.out 1
      have hfz20_2 := blk_frozen BK455.out 2
      go_wp2_with (first | (go_at_call 29; (with_reducible refine (darningref4_Off.calls ((rd_T35 l0 x18_2).f0) ((rd_T35 l0 x18_2).f1) true t456 _ A15.out).mono ?_); rintro e w21 ⟨rfl, hb⟩; have n0_ := Aside0.mk (blk_below (g := gb455) (o := .cells #[.int .i64 ((rd_T35 l0 x18_2).f0), .int .i64 ((rd_T35 l0 x18_2).f1), .bool true] 35 (0, 0)) (by (with_reducible repeat (first | refine blk_drewN ?_ _ | refine blk_drew ?_ | refine blk_alloc ?_ _)); refine blk_put (cs := #[.int .i64 ((rd_T35 l0 x18_2).f0), .int .i64 ((rd_T35 l0 x18_2).f1), .bool false]) ?_ 2 _ rfl; (with_reducible repeat (first | refine blk_drewN ?_ _ | refine blk_drew ?_ | refine blk_alloc ?_ _)); refine blk_put (cs := #[.int .i64 ((rd_T35 l0 x18_2).f0), .int .i64 0, .bool false]) ?_ 1 _ rfl; (with_reducible repeat (first | refine blk_drewN ?_ _ | refine blk_drew ?_ | refine blk_alloc ?_ _)); refine blk_put (cs := #[.int .i64 0, .int .i64 0, .bool false]) ?_ 0 _ rfl; (with_reducible repeat (first | refine blk_drewN ?_ _ | refine blk_drew ?_ | refine blk_alloc ?_ _)); exact BK455.out) hb); have n1_ := Aside0.mk (qw (by repeat (first | (with_reducible first | exact HB.out | apply qd | apply qe | apply qf | refine below_set ?_ GE455.out) | exact HB.out)) hb); replace BK455 := n0_; replace HB := n1_; clear n0_ n1_; (try clear hb)))
      go_meet
      case rel => (try simp only [← Nbq13.out]); exact ⟨_, (false), (by first | rfl | (simp; done) | (simp [*]; done)), H', ⟨by have := HJ3.out; have := HK2.out; first | omega | exact Nat.le_refl _⟩, ⟨by (with_reducible repeat (first | refine blk_drewN ?_ _ | refine blk_drew ?_ | refine blk_alloc ?_ _)); exact BK455.out⟩, ⟨by repeat (first | (with_reducible first | exact HB.out | apply qd | apply qe | apply qf | refine below_set ?_ GE455.out) | exact HB.out)⟩⟩
     rw [if_pos c17] at H
     have c17b0 : decide (a1 ≤ (wrap64 ((wrap64 (((rd_T35 l0 x18_2).f0) + ((rd_T35 l0 x18_2).f1))) * 8))) = true := decide_eq_true c17
     clear c17
     have H' := Aside0.mk H
     clear H
     have hcz18_0 : w11.cell? ⟨gb455, 0, none⟩ = some (.int .i64 0) := (blk_cell BK455.out 0).trans rfl
     have hcz18_1 : w11.cell? ⟨gb455, 1, none⟩ = some (.int .i64 0) := (blk_cell BK455.out 1).trans rfl
     have hcz18_2 : w11.cell? ⟨gb455, 2, none⟩ = some (.bool false) := (blk_cell BK455.out 2).trans rfl
     have hfz18_0 := blk_frozen BK455.out 0
     have hfz18_1 := blk_frozen BK455.out 1
     have hfz18_2 := blk_frozen BK455.out 2
     go_wp2_with (first | (go_at_call 29; (with_reducible refine (darningref4_Off.calls ((rd_T35 l0 x18_2).f0) ((rd_T35 l0 x18_2).f1) true t456 _ A15.out).mono ?_); rintro e w19 ⟨rfl, hb⟩; have n0_ := Aside0.mk (blk_below (g := gb455) (o := .cells #[.int .i64 ((rd_T35 l0 x18_2).f0), .int .i64 ((rd_T35 l0 x18_2).f1), .bool true] 35 (0, 0)) (by (with_reducible repeat (first | refine blk_drewN ?_ _ | refine blk_drew ?_ | refine blk_alloc ?_ _)); refine blk_put (cs := #[.int .i64 ((rd_T35 l0 x18_2).f0), .int .i64 ((rd_T35 l0 x18_2).f1), .bool false]) ?_ 2 _ rfl; (with_reducible repeat (first | refine blk_drewN ?_ _ | refine blk_drew ?_ | refine blk_alloc ?_ _)); refine blk_put (cs := #[.int .i64 ((rd_T35 l0 x18_2).f0), .int .i64 0, .bool false]) ?_ 1 _ rfl; (with_reducible repeat (first | refine blk_drewN ?_ _ | refine blk_drew ?_ | refine blk_alloc ?_ _)); refine blk_put (cs := #[.int .i64 0, .int .i64 0, .bool false]) ?_ 0 _ rfl; (with_reducible repeat (first | refine blk_drewN ?_ _ | refine blk_drew ?_ | refine blk_alloc ?_ _)); exact BK455.out) hb); have n1_ := Aside0.mk (qw (by repeat (first | (with_reducible first | exact HB.out | apply qd | apply qe | apply qf | refine below_set ?_ GE455.out) | exact HB.out)) hb); replace BK455 := n0_; replace HB := n1_; clear n0_ n1_; (try clear hb)))
     go_meet
     case rel => (try simp only [← Nbq13.out]); exact ⟨_, (decide (a2 ≤ (wrap64 ((wrap64 ((wrap64 (((rd_T35 l0 x18_2).f0) + ((rd_T35 l0 x18_2).f1))) * 8)) - a1)))), (by first | rfl | (simp; done) | (simp [*]; done)), H', ⟨by have := HJ3.out; have := HK2.out; first | omega | exact Nat.le_refl _⟩, ⟨by (with_reducible repeat (first | refine blk_drewN ?_ _ | refine blk_drew ?_ | refine blk_alloc ?_ _)); exact BK455.out⟩, ⟨by repeat (first | (with_reducible first | exact HB.out | apply qd | apply qe | apply qf | refine below_set ?_ GE455.out) | exact HB.out)⟩⟩
    clear HC10
    try clear c1
    try clear q1
    try clear p2
    try clear p4
    try clear q4
    try clear hx4
    try clear c5
    try clear c5b0
    try clear c6
    try clear p6
    try clear c7
    try clear c7b0
    try clear c8
    try clear c8b0
    try clear c9
    try clear c9b0
    try clear q13
    try clear c14
    try clear c16
    try clear c16b0
    try clear c17
    try clear c17b0
    try clear hcz12_0
    try clear hcz12_1
    try clear hcz12_2
    try clear hcz18_0
    try clear hcz18_1
    try clear hcz18_2
    try clear hcz20_0
    try clear hcz20_1
    try clear hcz20_2
    try clear hcz22_0
    try clear hcz22_1
    try clear hcz22_2
    try clear hcz24_0
    try clear hcz24_1
    try clear hcz24_2
    try clear hfz12_0
    try clear hfz12_1
    try clear hfz12_2
    try clear hfz18_0
    try clear hfz18_1
    try clear hfz18_2
    try clear hfz20_0
    try clear hfz20_1
    try clear hfz20_2
    try clear hfz22_0
    try clear hfz22_1
    try clear hfz22_2
    try clear hfz24_0
    try clear hfz24_1
    try clear hfz24_2
    try clear hx454_0
    try clear hx454_1
    try clear hx454_2
    try clear p2
    try clear p454
    try clear q454
    obtain ⟨kq, x47_9, rfl, HA, HJ9, BK455, HB⟩ := hcut
    cases kq with
    | zero => exact absurd HA.out (by simp [darningref4_Within.j2])
    | succ kj9 =>
     have H := HA.out
     clear HA
     simp only [darningref4_Within.j2] at H
     by_cases c25 : x47_9 = true
     ·
      subst c25
      have H1 : (some true) = some r := by rw [if_pos rfl] at H; exact H
      clear H
      have H := H1
      clear H1
      obtain rfl := Option.some.inj H
      go_wp2
      go_ret
      exact ⟨by first | rfl | (simp [errW_none, errW_some] <;> rfl) | (simp [*, errW_none, errW_some] <;> rfl), by repeat (first | (with_reducible first | exact HB.out | apply qd | apply qe | apply qf | refine below_set ?_ GE455.out) | exact HB.out)⟩
     replace c25 := Bool.eq_false_iff.mpr c25
     subst c25
     have H1 : (darningref4_Within.l0 kj9 a1 a2 l0 (l0.length : Int) (wrap64 (x18_2 + 1))) = some r := by rw [if_neg (show ¬ (false = true) by decide)] at H; exact H
     clear H
     have H := H1
     clear H1
     have H' := Aside0.mk H
     clear H
     go_wp2
     go_roundg kj9
     case measure => have := HJ3.out; have := HK2.out; have := HJ9.out; omega
     case rel => exact ⟨(wrap64 (x18_2 + 1)), (by first | rfl | (simp; done) | (simp [*]; done)), H', ⟨by have := HJ3.out; have := HK2.out; have := HJ9.out; omega⟩, ⟨by repeat (first | (with_reducible first | exact HB.out | apply qd | apply qe | apply qf | refine below_set ?_ GE455.out) | exact HB.out)⟩⟩

end Go.Proofs.Ytglekonhdjploaa.XImageForms
