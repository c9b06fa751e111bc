-- printed by wip/xprint.py
import Derived.Test.YtglekonhdjploaaXImageFormsx0
namespace Go.Proofs.Ytglekonhdjploaa.XImageForms
open Go.RowKit Go.Proofs.YtglekonhdjploaaW.PrintWords Go.Proofs.YtglekonhdjploaaW.PrintLast Go.Proofs.YtglekonhdjploaaW.PrintMore
attribute [local go_sem] max2_int min2_int max_two min_two max_three min_three max_four min_four
set_option linter.unusedVariables false
set_option linter.unusedSimpArgs false

/-! ### fit_Fits: function 84 -/
mutual
def fit_Fits.l0 : Nat → List (S35) → Int → List Int → List (S35) → Int → Int → Option (List Int)
 | 0, _, _, _, _, _, _ => none
 | k + 1, x0, x1, x5, x8, x9, x10 => if x10 < x9 then (if 0 ≤ x10 then (if x10 < (x8.length : Int) then (if x1 < 2 then (fit_Fits.j1 k x0 x1 x5 x10 x8 x9 x10 true ((rd_T35 x8 x10).f0) ((rd_T35 x8 x10).f1) ((rd_T35 x8 x10).f2)) else (if (rd_T35 x8 x10).f2 = true then (fit_Fits.j1 k x0 x1 x5 x10 x8 x9 x10 true ((rd_T35 x8 x10).f0) ((rd_T35 x8 x10).f1) ((rd_T35 x8 x10).f2)) else (fit_Fits.j1 k x0 x1 x5 x10 x8 x9 x10 (decide (((rd_T35 x8 x10).f1) < x1)) ((rd_T35 x8 x10).f0) ((rd_T35 x8 x10).f1) ((rd_T35 x8 x10).f2)))) else (none)) else (none)) else (some x5)
def fit_Fits.j5 : Nat → List (S35) → Int → List Int → List (S35) → Int → Int → Option (List Int)
 | 0, _, _, _, _, _, _ => none
 | k + 1, x0, x1, x5, x8, x9, x10 => fit_Fits.l0 k x0 x1 x5 x8 x9 (wrap64 (x10 + 1))
def fit_Fits.j1 : Nat → List (S35) → Int → List Int → Int → List (S35) → Int → Int → Bool → Int → Int → Bool → Option (List Int)
 | 0, _, _, _, _, _, _, _, _, _, _, _ => none
 | k + 1, x0, x1, x5, x6, x8, x9, x10, x26, x147000, x147001, x147002 => if x26 = true then (fit_Fits.j5 k x0 x1 x5 x8 x9 x10) else (if (x5.length : Int) > 0 then (if 0 < (x5.length : Int) then (if 0 ≤ (rd x5 0) then (if (rd x5 0) < (x0.length : Int) then (fit_Fits.j2 k x0 x1 x5 x6 x8 x9 x10 (decide (x147001 < ((rd_T35 x0 (rd x5 0)).f1))) x147000 x147001 x147002) else (none)) else (none)) else (none)) else (fit_Fits.j2 k x0 x1 x5 x6 x8 x9 x10 false x147000 x147001 x147002))
def fit_Fits.j2 : Nat → List (S35) → Int → List Int → Int → List (S35) → Int → Int → Bool → Int → Int → Bool → Option (List Int)
 | 0, _, _, _, _, _, _, _, _, _, _, _ => none
 | k + 1, x0, x1, x5, x6, x8, x9, x10, x41, x147000, x147001, x147002 => if x41 = true then (fit_Fits.j3 k x0 x1 ([] : List Int) x6 x8 x9 x10 x147000 x147001 x147002) else (fit_Fits.j3 k x0 x1 x5 x6 x8 x9 x10 x147000 x147001 x147002)
def fit_Fits.j3 : Nat → List (S35) → Int → List Int → Int → List (S35) → Int → Int → Int → Int → Bool → Option (List Int)
 | 0, _, _, _, _, _, _, _, _, _, _ => none
 | k + 1, x0, x1, x5, x6, x8, x9, x10, x147000, x147001, x147002 => if (x5.length : Int) = 0 then (fit_Fits.j4 k x0 x1 x5 x6 x8 x9 x10 true) else (if 0 < (x5.length : Int) then (if 0 ≤ (rd x5 0) then (if (rd x5 0) < (x0.length : Int) then (fit_Fits.j4 k x0 x1 x5 x6 x8 x9 x10 (x147001 == ((rd_T35 x0 (rd x5 0)).f1))) else (none)) else (none)) else (none))
def fit_Fits.j4 : Nat → List (S35) → Int → List Int → Int → List (S35) → Int → Int → Bool → Option (List Int)
 | 0, _, _, _, _, _, _, _, _ => none
 | k + 1, x0, x1, x5, x6, x8, x9, x10, x56 => if x56 = true then (if x5.length < 17592186044416 then (fit_Fits.j5 k x0 x1 (x5 ++ [x6]) x8 x9 x10) else (none)) else (fit_Fits.j5 k x0 x1 x5 x8 x9 x10)
end
def fit_Fits.f (k : Nat) (l0 : List (S35)) (a1 : Int) : Option (List Int) := fit_Fits.l0 k l0 a1 ([] : List Int) l0 (l0.length : Int) 0
theorem fit_Fits.mono_l : ∀ k, (∀ y0 y1 y2 y3 y4 y5, LeO (fit_Fits.l0 k y0 y1 y2 y3 y4 y5) (fit_Fits.l0 (k + 1) y0 y1 y2 y3 y4 y5)) ∧ (∀ y0 y1 y2 y3 y4 y5, LeO (fit_Fits.j5 k y0 y1 y2 y3 y4 y5) (fit_Fits.j5 (k + 1) y0 y1 y2 y3 y4 y5)) ∧ (∀ y0 y1 y2 y3 y4 y5 y6 y7 y8 y9 y10, LeO (fit_Fits.j1 k y0 y1 y2 y3 y4 y5 y6 y7 y8 y9 y10) (fit_Fits.j1 (k + 1) y0 y1 y2 y3 y4 y5 y6 y7 y8 y9 y10)) ∧ (∀ y0 y1 y2 y3 y4 y5 y6 y7 y8 y9 y10, LeO (fit_Fits.j2 k y0 y1 y2 y3 y4 y5 y6 y7 y8 y9 y10) (fit_Fits.j2 (k + 1) y0 y1 y2 y3 y4 y5 y6 y7 y8 y9 y10)) ∧ (∀ y0 y1 y2 y3 y4 y5 y6 y7 y8 y9, LeO (fit_Fits.j3 k y0 y1 y2 y3 y4 y5 y6 y7 y8 y9) (fit_Fits.j3 (k + 1) y0 y1 y2 y3 y4 y5 y6 y7 y8 y9)) ∧ (∀ y0 y1 y2 y3 y4 y5 y6 y7, LeO (fit_Fits.j4 k y0 y1 y2 y3 y4 y5 y6 y7) (fit_Fits.j4 (k + 1) y0 y1 y2 y3 y4 y5 y6 y7))
 | 0 => ⟨fun _ _ _ _ _ _ r h => by simp [fit_Fits.l0] at h, fun _ _ _ _ _ _ r h => by simp [fit_Fits.j5] at h, fun _ _ _ _ _ _ _ _ _ _ _ r h => by simp [fit_Fits.j1] at h, fun _ _ _ _ _ _ _ _ _ _ _ r h => by simp [fit_Fits.j2] at h, fun _ _ _ _ _ _ _ _ _ _ r h => by simp [fit_Fits.j3] at h, fun _ _ _ _ _ _ _ _ r h => by simp [fit_Fits.j4] at h⟩
 | k + 1 => by
  obtain ⟨ih0, ih1, ih2, ih3, ih4, ih5⟩ := fit_Fits.mono_l k
  refine ⟨?_, ?_, ?_, ?_, ?_, ?_⟩
  ·
   intro y0 y1 y2 y3 y4 y5
   unfold fit_Fits.l0
   repeat' first
   | (with_reducible exact ih0 _ _ _ _ _ _)
   | (with_reducible exact ih1 _ _ _ _ _ _)
   | (with_reducible exact ih2 _ _ _ _ _ _ _ _ _ _ _)
   | (with_reducible exact ih3 _ _ _ _ _ _ _ _ _ _ _)
   | (with_reducible exact ih4 _ _ _ _ _ _ _ _ _ _)
   | (with_reducible exact ih5 _ _ _ _ _ _ _ _)
   | (with_reducible exact LeO.refl _)
   | (with_reducible exact LeO.none _)
   | (with_reducible refine LeO.ite ?_ ?_)
   | (with_reducible refine LeO.bind ?_ (fun _ => ?_))
   | exact ih0 _ _ _ _ _ _
   | exact ih1 _ _ _ _ _ _
   | exact ih2 _ _ _ _ _ _ _ _ _ _ _
   | exact ih3 _ _ _ _ _ _ _ _ _ _ _
   | exact ih4 _ _ _ _ _ _ _ _ _ _
   | exact ih5 _ _ _ _ _ _ _ _
   | exact LeO.none _
   | refine LeO.ite ?_ ?_
   | refine LeO.bind ?_ (fun _ => ?_)
  ·
   intro y0 y1 y2 y3 y4 y5
   unfold fit_Fits.j5
   repeat' first
   | (with_reducible exact ih0 _ _ _ _ _ _)
   | (with_reducible exact ih1 _ _ _ _ _ _)
   | (with_reducible exact ih2 _ _ _ _ _ _ _ _ _ _ _)
   | (with_reducible exact ih3 _ _ _ _ _ _ _ _ _ _ _)
   | (with_reducible exact ih4 _ _ _ _ _ _ _ _ _ _)
   | (with_reducible exact ih5 _ _ _ _ _ _ _ _)
   | (with_reducible exact LeO.refl _)
   | (with_reducible exact LeO.none _)
   | (with_reducible refine LeO.ite ?_ ?_)
   | (with_reducible refine LeO.bind ?_ (fun _ => ?_))
   | exact ih0 _ _ _ _ _ _
   | exact ih1 _ _ _ _ _ _
   | exact ih2 _ _ _ _ _ _ _ _ _ _ _
   | exact ih3 _ _ _ _ _ _ _ _ _ _ _
   | exact ih4 _ _ _ _ _ _ _ _ _ _
   | exact ih5 _ _ _ _ _ _ _ _
   | exact LeO.none _
   | refine LeO.ite ?_ ?_
   | refine LeO.bind ?_ (fun _ => ?_)
  ·
   intro y0 y1 y2 y3 y4 y5 y6 y7 y8 y9 y10
   unfold fit_Fits.j1
   repeat' first
   | (with_reducible exact ih0 _ _ _ _ _ _)
   | (with_reducible exact ih1 _ _ _ _ _ _)
   | (with_reducible exact ih2 _ _ _ _ _ _ _ _ _ _ _)
   | (with_reducible exact ih3 _ _ _ _ _ _ _ _ _ _ _)
   | (with_reducible exact ih4 _ _ _ _ _ _ _ _ _ _)
   | (with_reducible exact ih5 _ _ _ _ _ _ _ _)
   | (with_reducible exact LeO.refl _)
   | (with_reducible exact LeO.none _)
   | (with_reducible refine LeO.ite ?_ ?_)
   | (with_reducible refine LeO.bind ?_ (fun _ => ?_))
   | exact ih0 _ _ _ _ _ _
   | exact ih1 _ _ _ _ _ _
   | exact ih2 _ _ _ _ _ _ _ _ _ _ _
   | exact ih3 _ _ _ _ _ _ _ _ _ _ _
   | exact ih4 _ _ _ _ _ _ _ _ _ _
   | exact ih5 _ _ _ _ _ _ _ _
   | exact LeO.none _
   | refine LeO.ite ?_ ?_
   | refine LeO.bind ?_ (fun _ => ?_)
  ·
   intro y0 y1 y2 y3 y4 y5 y6 y7 y8 y9 y10
   unfold fit_Fits.j2
   repeat' first
   | (with_reducible exact ih0 _ _ _ _ _ _)
   | (with_reducible exact ih1 _ _ _ _ _ _)
   | (with_reducible exact ih2 _ _ _ _ _ _ _ _ _ _ _)
   | (with_reducible exact ih3 _ _ _ _ _ _ _ _ _ _ _)
   | (with_reducible exact ih4 _ _ _ _ _ _ _ _ _ _)
   | (with_reducible exact ih5 _ _ _ _ _ _ _ _)
   | (with_reducible exact LeO.refl _)
   | (with_reducible exact LeO.none _)
   | (with_reducible refine LeO.ite ?_ ?_)
   | (with_reducible refine LeO.bind ?_ (fun _ => ?_))
   | exact ih0 _ _ _ _ _ _
   | exact ih1 _ _ _ _ _ _
   | exact ih2 _ _ _ _ _ _ _ _ _ _ _
   | exact ih3 _ _ _ _ _ _ _ _ _ _ _
   | exact ih4 _ _ _ _ _ _ _ _ _ _
   | exact ih5 _ _ _ _ _ _ _ _
   | exact LeO.none _
   | refine LeO.ite ?_ ?_
   | refine LeO.bind ?_ (fun _ => ?_)
  ·
   intro y0 y1 y2 y3 y4 y5 y6 y7 y8 y9
   unfold fit_Fits.j3
   repeat' first
   | (with_reducible exact ih0 _ _ _ _ _ _)
   | (with_reducible exact ih1 _ _ _ _ _ _)
   | (with_reducible exact ih2 _ _ _ _ _ _ _ _ _ _ _)
   | (with_reducible exact ih3 _ _ _ _ _ _ _ _ _ _ _)
   | (with_reducible exact ih4 _ _ _ _ _ _ _ _ _ _)
   | (with_reducible exact ih5 _ _ _ _ _ _ _ _)
   | (with_reducible exact LeO.refl _)
   | (with_reducible exact LeO.none _)
   | (with_reducible refine LeO.ite ?_ ?_)
   | (with_reducible refine LeO.bind ?_ (fun _ => ?_))
   | exact ih0 _ _ _ _ _ _
   | exact ih1 _ _ _ _ _ _
   | exact ih2 _ _ _ _ _ _ _ _ _ _ _
   | exact ih3 _ _ _ _ _ _ _ _ _ _ _
   | exact ih4 _ _ _ _ _ _ _ _ _ _
   | exact ih5 _ _ _ _ _ _ _ _
   | exact LeO.none _
   | refine LeO.ite ?_ ?_
   | refine LeO.bind ?_ (fun _ => ?_)
  ·
   intro y0 y1 y2 y3 y4 y5 y6 y7
   unfold fit_Fits.j4
   repeat' first
   | (with_reducible exact ih0 _ _ _ _ _ _)
   | (with_reducible exact ih1 _ _ _ _ _ _)
   | (with_reducible exact ih2 _ _ _ _ _ _ _ _ _ _ _)
   | (with_reducible exact ih3 _ _ _ _ _ _ _ _ _ _ _)
   | (with_reducible exact ih4 _ _ _ _ _ _ _ _ _ _)
   | (with_reducible exact ih5 _ _ _ _ _ _ _ _)
   | (with_reducible exact LeO.refl _)
   | (with_reducible exact LeO.none _)
   | (with_reducible refine LeO.ite ?_ ?_)
   | (with_reducible refine LeO.bind ?_ (fun _ => ?_))
   | exact ih0 _ _ _ _ _ _
   | exact ih1 _ _ _ _ _ _
   | exact ih2 _ _ _ _ _ _ _ _ _ _ _
   | exact ih3 _ _ _ _ _ _ _ _ _ _ _
   | exact ih4 _ _ _ _ _ _ _ _ _ _
   | exact ih5 _ _ _ _ _ _ _ _
   | exact LeO.none _
   | refine LeO.ite ?_ ?_
   | refine LeO.bind ?_ (fun _ => ?_)
theorem fit_Fits.mono : ∀ a0 a1 k, LeO (fit_Fits.f k a0 a1) (fit_Fits.f (k + 1) a0 a1) := by
 intro a0 a1 k
 obtain ⟨ih0, ih1, ih2, ih3, ih4, ih5⟩ := fit_Fits.mono_l k
 unfold fit_Fits.f
 repeat' first
   | (with_reducible exact ih0 _ _ _ _ _ _)
   | (with_reducible exact ih1 _ _ _ _ _ _)
   | (with_reducible exact ih2 _ _ _ _ _ _ _ _ _ _ _)
   | (with_reducible exact ih3 _ _ _ _ _ _ _ _ _ _ _)
   | (with_reducible exact ih4 _ _ _ _ _ _ _ _ _ _)
   | (with_reducible exact ih5 _ _ _ _ _ _ _ _)
   | (with_reducible exact LeO.refl _)
   | (with_reducible exact LeO.none _)
   | (with_reducible refine LeO.ite ?_ ?_)
   | (with_reducible refine LeO.bind ?_ (fun _ => ?_))
   | exact ih0 _ _ _ _ _ _
   | exact ih1 _ _ _ _ _ _
   | exact ih2 _ _ _ _ _ _ _ _ _ _ _
   | exact ih3 _ _ _ _ _ _ _ _ _ _ _
   | exact ih4 _ _ _ _ _ _ _ _ _ _
   | exact ih5 _ _ _ _ _ _ _ _
   | exact LeO.none _
   | refine LeO.ite ?_ ?_
   | refine LeO.bind ?_ (fun _ => ?_)
set_option maxHeartbeats 8000000 in
set_option maxRecDepth 100000 in
theorem fit_Fits.calls (k : Nat) (A0 : Option Addr) (c0 : Nat) (l0 : List (S35)) (a1 : Int) (r : List Int) (w : World) (hr0 : Kd.C k35 w A0 l0.length l0) (hc0 : l0.length ≤ c0) (h : fit_Fits.f k l0 a1 = some r) :
  Calls Try.prog 84 #[.slice A0 l0.length c0, .int .i64 a1] w fun e w' => ∃ v0_ : Value, e = .returned (v0_) ∧ Kd.R (Kd.int .i64) 3 w' w.heap.size (fun _ => True) v0_ r ∧ Below w.heap.size w w' := by
 have hu35 := Try.underlying35
 have HR0 := Aside0.mk hr0
 have HC0 := Aside0.mk hc0
 clear hr0 hc0
 have HB := Aside0.mk (Below.refl w.heap.size w)
 have H : (fit_Fits.l0 k l0 a1 ([] : List Int) l0 (l0.length : Int) 0) = some r := h
 clear h
 have H' := Aside0.mk H
 clear H
 go_enter Try.func84, Try.ntmps84
 go_wp2
 repeat (go_quiet (fail); try go_wp2)
 go_loopg [5, 10] k (fun kq v5 v10 w' => ∃ (x5_1 : List Int) (x10_1 : Int), v10 = .int .i64 x10_1 ∧ Aside0 (fit_Fits.l0 kq l0 a1 x5_1 l0 (l0.length : Int) x10_1 = some r) ∧ Aside0 (kq ≤ k) ∧ Aside0 (Kd.R (Kd.int .i64) 3 w' w.heap.size (fun _ => True) v5 x5_1) ∧ Aside0 (Below w.heap.size w w'))
 case atStart => exact ⟨(([] : List Int)), (0), (by first | rfl | (simp; done) | (simp [*]; done)), H', ⟨Nat.le_refl _⟩, ⟨by first | exact Kd.R_nil _ _ _ _ _ | exact Kd.N_nil _ _ _ _ _ | exact Kd.V_nil _ _ _ _ _ | exact Kd.Q_nil _ _ _ _ _ | exact Kd.S_nil _ _ _ _ _⟩, ⟨zB HB⟩⟩
 case round =>
  clear H'
  try clear p2
  obtain ⟨x5_1, x10_1, rfl, HA, HK1, HO_5, HB⟩ := hrel
  cases gk with
  | zero => exact absurd HA.out (by simp [fit_Fits.l0])
  | succ k1 =>
   have H := HA.out
   clear HA
   simp only [fit_Fits.l0] at H
   by_cases c3 : x10_1 < (l0.length : Int)
   rotate_left
   ·
    rw [if_neg c3] at H
    have c3b0 : decide (x10_1 < (l0.length : Int)) = false := decide_eq_false c3
    clear c3
    obtain rfl := Option.some.inj H
    go_wp2
    repeat (go_quiet (fail); try go_wp2)
    go_ret
    exact ⟨_, by first | rfl | (simp [errW_none, errW_some] <;> rfl) | (simp [*, errW_none, errW_some] <;> rfl), by (with_reducible repeat (first | apply qa | apply qb | apply qc)); exact HO_5.out, zB HB⟩
   rw [if_pos c3] at H
   have c3b0 : decide (x10_1 < (l0.length : Int)) = true := decide_eq_true c3
   clear c3
   have HC4 := Aside0.mk H
   clear H
   go_upto_block 1 with (fail)
   repeat (go_quiet (fail); go_upto_block 1 with (fail))
   go_cut [5] (fun v5 wc => ∃ (kq : Nat) (x5_3 : List Int), Aside0 (fit_Fits.j5 kq l0 a1 x5_3 l0 (l0.length : Int) x10_1 = some r) ∧ Aside0 (kq ≤ k1) ∧ Aside0 (Kd.R (Kd.int .i64) 3 wc w.heap.size (fun _ => True) v5 x5_3) ∧ Aside0 (Below w.heap.size w wc))
   case first =>
    have H := HC4.out
    clear HC4
    by_cases c5 : 0 ≤ x10_1
    rotate_left
    ·
     rw [if_neg c5] at H
     exact absurd H (by simp)
    rw [if_pos c5] at H
    have c5b0 : decide (0 ≤ x10_1) = true := decide_eq_true c5
    clear c5
    (first | rw [c5b0] | (simp only [i64_w, i32_w]; rw [c5b0]) | skip)
    by_cases c6 : x10_1 < (l0.length : Int)
    rotate_left
    ·
     rw [if_neg c6] at H
     exact absurd H (by simp)
    rw [if_pos c6] at H
    have c6b0 : decide (x10_1 < (l0.length : Int)) = true := decide_eq_true c6
    clear c6
    have HC7 := Aside0.mk H
    clear H
    have p145 : 0 ≤ (x10_1 : Int) := zu
    have q145 : x10_1 < (l0.length : Int) := zu
    obtain ⟨ad145, e145, hx145_0, hx145_1, hx145_2⟩ := at_T35 HR0.out x10_1 p145 q145
    cases e145
    replace hx145_0 := zw HB hx145_0
    replace hx145_1 := zw HB hx145_1
    replace hx145_2 := zw HB hx145_2
    replace p145 := eq_true p145
    replace q145 := eq_true q145
    go_upto_region 5 with (first | ((with_reducible refine gate_dst (N := 7) rfl ?_); refine box_event ?hg (N := 7) ?hd (cs := #[.int .i64 0, .int .i64 0, .bool false]) (t := 35) ?hr ?_; (case hd => rfl); (case hg => rfl); (case hr => first | (go_simp; done) | (go_simp; rfl)); intro gb146 hg w8 hbox hb; have n0_ := za HO_5 hb; have n1_ := zb HB hb; have n2_ := Aside0.mk (hbox); have n3_ := Aside0.mk ((by rw [hg]; exact (below_size (zB HB)) : w.heap.size ≤ gb146)); have n4_ := Aside0.mk ((by rw [hg]; exact (below_size (zB HB)) : w.heap.size ≤ gb146)); clear HO_5; clear HB; have HO_5 := n0_; have HB := n1_; have BK146 := n2_; have GW146 := n3_; have GE146 := n4_; clear n0_ n1_ n2_ n3_ n4_; clear hb hbox hg; have hcz9_0 : w8.cell? ⟨gb146, 0, none⟩ = some (.int .i64 0) := (blk_cell BK146.out 0).trans rfl; have hcz9_1 : w8.cell? ⟨gb146, 1, none⟩ = some (.int .i64 0) := (blk_cell BK146.out 1).trans rfl; have hcz9_2 : w8.cell? ⟨gb146, 2, none⟩ = some (.bool false) := (blk_cell BK146.out 2).trans rfl; have hfz9_0 := blk_frozen BK146.out 0; have hfz9_1 := blk_frozen BK146.out 1; have hfz9_2 := blk_frozen BK146.out 2))
    repeat (go_quiet (first | ((with_reducible refine gate_dst (N := 7) rfl ?_); refine box_event ?hg (N := 7) ?hd (cs := #[.int .i64 0, .int .i64 0, .bool false]) (t := 35) ?hr ?_; (case hd => rfl); (case hg => rfl); (case hr => first | (go_simp; done) | (go_simp; rfl)); intro gb146 hg w8 hbox hb; have n0_ := za HO_5 hb; have n1_ := zb HB hb; have n2_ := Aside0.mk (hbox); have n3_ := Aside0.mk ((by rw [hg]; exact (below_size (zB HB)) : w.heap.size ≤ gb146)); have n4_ := Aside0.mk ((by rw [hg]; exact (below_size (zB HB)) : w.heap.size ≤ gb146)); clear HO_5; clear HB; have HO_5 := n0_; have HB := n1_; have BK146 := n2_; have GW146 := n3_; have GE146 := n4_; clear n0_ n1_ n2_ n3_ n4_; clear hb hbox hg; have hcz9_0 : w8.cell? ⟨gb146, 0, none⟩ = some (.int .i64 0) := (blk_cell BK146.out 0).trans rfl; have hcz9_1 : w8.cell? ⟨gb146, 1, none⟩ = some (.int .i64 0) := (blk_cell BK146.out 1).trans rfl; have hcz9_2 : w8.cell? ⟨gb146, 2, none⟩ = some (.bool false) := (blk_cell BK146.out 2).trans rfl; have hfz9_0 := blk_frozen BK146.out 0; have hfz9_1 := blk_frozen BK146.out 1; have hfz9_2 := blk_frozen BK146.out 2)); go_upto_region 5 with (first | ((with_reducible refine gate_dst (N := 7) rfl ?_); refine box_event ?hg (N := 7) ?hd (cs := #[.int .i64 0, .int .i64 0, .bool false]) (t := 35) ?hr ?_; (case hd => rfl); (case hg => rfl); (case hr => first | (go_simp; done) | (go_simp; rfl)); intro gb146 hg w8 hbox hb; have n0_ := za HO_5 hb; have n1_ := zb HB hb; have n2_ := Aside0.mk (hbox); have n3_ := Aside0.mk ((by rw [hg]; exact (below_size (zB HB)) : w.heap.size ≤ gb146)); have n4_ := Aside0.mk ((by rw [hg]; exact (below_size (zB HB)) : w.heap.size ≤ gb146)); clear HO_5; clear HB; have HO_5 := n0_; have HB := n1_; have BK146 := n2_; have GW146 := n3_; have GE146 := n4_; clear n0_ n1_ n2_ n3_ n4_; clear hb hbox hg; have hcz9_0 : w8.cell? ⟨gb146, 0, none⟩ = some (.int .i64 0) := (blk_cell BK146.out 0).trans rfl; have hcz9_1 : w8.cell? ⟨gb146, 1, none⟩ = some (.int .i64 0) := (blk_cell BK146.out 1).trans rfl; have hcz9_2 : w8.cell? ⟨gb146, 2, none⟩ = some (.bool false) := (blk_cell BK146.out 2).trans rfl; have hfz9_0 := blk_frozen BK146.out 0; have hfz9_1 := blk_frozen BK146.out 1; have hfz9_2 := blk_frozen BK146.out 2)))
    (try simp only [Act.put, qg, qh, qi])
    go_cut [26] (fun v26 wc => ∃ (kq : Nat) (x26_6 : Bool), v26 = .bool x26_6 ∧ Aside0 (fit_Fits.j1 kq l0 a1 x5_1 x10_1 l0 (l0.length : Int) x10_1 x26_6 ((rd_T35 l0 x10_1).f0) ((rd_T35 l0 x10_1).f1) ((rd_T35 l0 x10_1).f2) = some r) ∧ Aside0 (kq ≤ k1) ∧ Aside0 (Kd.R (Kd.int .i64) 3 wc w.heap.size (fun _ => True) u5 x5_1) ∧ Aside0 (wc.heap[gb146]? = some (.cells #[.int .i64 ((rd_T35 l0 x10_1).f0), .int .i64 ((rd_T35 l0 x10_1).f1), .bool ((rd_T35 l0 x10_1).f2)] 35 (0, 0))) ∧ Aside0 (Below w.heap.size w wc))
    case first =>
     have H := HC7.out
     clear HC7
     by_cases c10 : a1 < 2
     ·
      rw [if_pos c10] at H
      have c10b0 : decide (a1 < 2) = true := decide_eq_true c10
      clear c10
      (first | rw [c10b0] | (simp only [i64_w, i32_w]; rw [c10b0]) | skip)
      have H' := Aside0.mk H
      clear H
      go_wp2
      repeat (go_quiet (fail); try go_wp2)
      go_meet
      case rel => exact ⟨_, (true), (by first | rfl | (simp; done) | (simp [*]; done)), H', ⟨by have := HK1.out; first | omega | exact Nat.le_refl _⟩, ⟨by (with_reducible repeat (first | apply qa | apply qb | apply qc)); exact Kd.R_mono (Kd.R_far (p := ⟨gb146, 2, none⟩) (Kd.R_far (p := ⟨gb146, 1, none⟩) (Kd.R_far (p := ⟨gb146, 0, none⟩) (Kd.R_types HO_5.out BK146.out (by decide)) (fun _ hk => hk.2) (.int .i64 ((rd_T35 l0 x10_1).f0))) (fun _ hk => hk.2) (.int .i64 ((rd_T35 l0 x10_1).f1))) (fun _ hk => hk.2) (.bool ((rd_T35 l0 x10_1).f2))) (fun _ hk => trivial)⟩, ⟨by (with_reducible repeat (first | refine blk_drewN ?_ _ | refine blk_drew ?_ | refine blk_alloc ?_ _)); refine blk_put (cs := #[.int .i64 ((rd_T35 l0 x10_1).f0), .int .i64 ((rd_T35 l0 x10_1).f1), .bool false]) ?_ 2 _ rfl; (with_reducible repeat (first | refine blk_drewN ?_ _ | refine blk_drew ?_ | refine blk_alloc ?_ _)); refine blk_put (cs := #[.int .i64 ((rd_T35 l0 x10_1).f0), .int .i64 0, .bool false]) ?_ 1 _ rfl; (with_reducible repeat (first | refine blk_drewN ?_ _ | refine blk_drew ?_ | refine blk_alloc ?_ _)); refine blk_put (cs := #[.int .i64 0, .int .i64 0, .bool false]) ?_ 0 _ rfl; (with_reducible repeat (first | refine blk_drewN ?_ _ | refine blk_drew ?_ | refine blk_alloc ?_ _)); exact BK146.out⟩, ⟨by repeat (first | (with_reducible first | exact HB.out | apply qd | apply qe | apply qf | refine below_set ?_ GE146.out) | exact HB.out)⟩⟩
     rw [if_neg c10] at H
     have c10b0 : decide (a1 < 2) = false := decide_eq_false c10
     clear c10
     (first | rw [c10b0] | (simp only [i64_w, i32_w]; rw [c10b0]) | skip)
     first | (generalize hbq11 : (rd_T35 l0 x10_1).f2 = bq11 at *; replace hbq11 := hbq11.symm) | (obtain ⟨bq11, hbq11⟩ : ∃ b_ : Bool, b_ = ((rd_T35 l0 x10_1).f2) := ⟨_, rfl⟩)
     replace H : (if bq11 = true then (fit_Fits.j1 k1 l0 a1 x5_1 x10_1 l0 (l0.length : Int) x10_1 true ((rd_T35 l0 x10_1).f0) ((rd_T35 l0 x10_1).f1) bq11) else (fit_Fits.j1 k1 l0 a1 x5_1 x10_1 l0 (l0.length : Int) x10_1 (decide (((rd_T35 l0 x10_1).f1) < a1)) ((rd_T35 l0 x10_1).f0) ((rd_T35 l0 x10_1).f1) bq11)) = some r := by first | exact H | (rw [← hbq11] at H; exact H)
     have Nbq11 := Aside0.mk hbq11
     clear hbq11
     (try rw [← Nbq11.out])
     by_cases c12 : bq11 = true
     ·
      subst c12
      have H1 : (fit_Fits.j1 k1 l0 a1 x5_1 x10_1 l0 (l0.length : Int) x10_1 true ((rd_T35 l0 x10_1).f0) ((rd_T35 l0 x10_1).f1) true) = some r := by rw [if_pos rfl] at H; exact H
      clear H
      have H := H1
      clear H1
      have H' := Aside0.mk H
      clear H
      have hcz13_0 : w8.cell? ⟨gb146, 0, none⟩ = some (.int .i64 0) := (blk_cell BK146.out 0).trans rfl
      have hcz13_1 : w8.cell? ⟨gb146, 1, none⟩ = some (.int .i64 0) := (blk_cell BK146.out 1).trans rfl
      have hcz13_2 : w8.cell? ⟨gb146, 2, none⟩ = some (.bool false) := (blk_cell BK146.out 2).trans rfl
      have hfz13_0 := blk_frozen BK146.out 0
      have hfz13_1 := blk_frozen BK146.out 1
      have hfz13_2 := blk_frozen BK146.out 2
      go_wp2
      repeat (go_quiet (fail); try go_wp2)
      go_meet
      case rel => (try simp only [← Nbq11.out]); exact ⟨_, (true), (by first | rfl | (simp; done) | (simp [*]; done)), H', ⟨by have := HK1.out; first | omega | exact Nat.le_refl _⟩, ⟨by (with_reducible repeat (first | apply qa | apply qb | apply qc)); exact Kd.R_mono (Kd.R_far (p := ⟨gb146, 2, none⟩) (Kd.R_far (p := ⟨gb146, 1, none⟩) (Kd.R_far (p := ⟨gb146, 0, none⟩) (Kd.R_types HO_5.out BK146.out (by decide)) (fun _ hk => hk.2) (.int .i64 ((rd_T35 l0 x10_1).f0))) (fun _ hk => hk.2) (.int .i64 ((rd_T35 l0 x10_1).f1))) (fun _ hk => hk.2) (.bool true)) (fun _ hk => trivial)⟩, ⟨by (with_reducible repeat (first | refine blk_drewN ?_ _ | refine blk_drew ?_ | refine blk_alloc ?_ _)); refine blk_put (cs := #[.int .i64 ((rd_T35 l0 x10_1).f0), .int .i64 ((rd_T35 l0 x10_1).f1), .bool false]) ?_ 2 _ rfl; (with_reducible repeat (first | refine blk_drewN ?_ _ | refine blk_drew ?_ | refine blk_alloc ?_ _)); refine blk_put (cs := #[.int .i64 ((rd_T35 l0 x10_1).f0), .int .i64 0, .bool false]) ?_ 1 _ rfl; (with_reducible repeat (first | refine blk_drewN ?_ _ | refine blk_drew ?_ | refine blk_alloc ?_ _)); refine blk_put (cs := #[.int .i64 0, .int .i64 0, .bool false]) ?_ 0 _ rfl; (with_reducible repeat (first | refine blk_drewN ?_ _ | refine blk_drew ?_ | refine blk_alloc ?_ _)); exact BK146.out⟩, ⟨by repeat (first | (with_reducible first | exact HB.out | apply qd | apply qe | apply qf | refine below_set ?_ GE146.out) | exact HB.out)⟩⟩
     replace c12 := Bool.eq_false_iff.mpr c12
     subst c12
     have H1 : (fit_Fits.j1 k1 l0 a1 x5_1 x10_1 l0 (l0.length : Int) x10_1 (decide (((rd_T35 l0 x10_1).f1) < a1)) ((rd_T35 l0 x10_1).f0) ((rd_T35 l0 x10_1).f1) false) = some r := by rw [if_neg (show ¬ (false = true) by decide)] at H; exact H
     clear H
     have H := H1
     clear H1
     have H' := Aside0.mk H
     clear H
     have hcz14_0 : w8.cell? ⟨gb146, 0, none⟩ = some (.int .i64 0) := (blk_cell BK146.out 0).trans rfl
     have hcz14_1 : w8.cell? ⟨gb146, 1, none⟩ = some (.int .i64 0) := (blk_cell BK146.out 1).trans rfl
     have hcz14_2 : w8.cell? ⟨gb146, 2, none⟩ = some (.bool false) := (blk_cell BK146.out 2).trans rfl
     have hfz14_0 := blk_frozen BK146.out 0
     have hfz14_1 := blk_frozen BK146.out 1
     have hfz14_2 := blk_frozen BK146.out 2
     go_wp2
     repeat (go_quiet (fail); try go_wp2)
     go_meet
     case rel => (try simp only [← Nbq11.out]); exact ⟨_, (decide (((rd_T35 l0 x10_1).f1) < a1)), (by first | rfl | (simp; done) | (simp [*]; done)), H', ⟨by have := HK1.out; first | omega | exact Nat.le_refl _⟩, ⟨by (with_reducible repeat (first | apply qa | apply qb | apply qc)); exact Kd.R_mono (Kd.R_far (p := ⟨gb146, 2, none⟩) (Kd.R_far (p := ⟨gb146, 1, none⟩) (Kd.R_far (p := ⟨gb146, 0, none⟩) (Kd.R_types HO_5.out BK146.out (by decide)) (fun _ hk => hk.2) (.int .i64 ((rd_T35 l0 x10_1).f0))) (fun _ hk => hk.2) (.int .i64 ((rd_T35 l0 x10_1).f1))) (fun _ hk => hk.2) (.bool false)) (fun _ hk => trivial)⟩, ⟨by (with_reducible repeat (first | refine blk_drewN ?_ _ | refine blk_drew ?_ | refine blk_alloc ?_ _)); refine blk_put (cs := #[.int .i64 ((rd_T35 l0 x10_1).f0), .int .i64 ((rd_T35 l0 x10_1).f1), .bool false]) ?_ 2 _ rfl; (with_reducible repeat (first | refine blk_drewN ?_ _ | refine blk_drew ?_ | refine blk_alloc ?_ _)); refine blk_put (cs := #[.int .i64 ((rd_T35 l0 x10_1).f0), .int .i64 0, .bool false]) ?_ 1 _ rfl; (with_reducible repeat (first | refine blk_drewN ?_ _ | refine blk_drew ?_ | refine blk_alloc ?_ _)); refine blk_put (cs := #[.int .i64 0, .int .i64 0, .bool false]) ?_ 0 _ rfl; (with_reducible repeat (first | refine blk_drewN ?_ _ | refine blk_drew ?_ | refine blk_alloc ?_ _)); exact BK146.out⟩, ⟨by repeat (first | (with_reducible first | exact HB.out | apply qd | apply qe | apply qf | refine below_set ?_ GE146.out) | exact HB.out)⟩⟩
    clear HC7
    try clear c1
    try clear p1
    try clear q1
    try clear hx1
    try clear p2
    try clear c3
    try clear c3b0
    try clear c5
    try clear c5b0
    try clear c6
    try clear c6b0
    try clear c8
    try clear c10
    try clear c10b0
    try clear q11
    try clear c12
    try clear p14
    try clear q14
    try clear hx14
    try clear hcz13_0
    try clear hcz13_1
    try clear hcz13_2
    try clear hcz14_0
    try clear hcz14_1
    try clear hcz14_2
    try clear hcz9_0
    try clear hcz9_1
    try clear hcz9_2
    try clear hfz13_0
    try clear hfz13_1
    try clear hfz13_2
    try clear hfz14_0
    try clear hfz14_1
    try clear hfz14_2
    try clear hfz9_0
    try clear hfz9_1
    try clear hfz9_2
    try clear hx145_0
    try clear hx145_1
    try clear hx145_2
    try clear p145
    try clear p2
    try clear q145
    obtain ⟨kq, x26_6, rfl, HA, HJ6, HO_5, BK146, HB⟩ := hcut
    cases kq with
    | zero => exact absurd HA.out (by simp [fit_Fits.j1])
    | succ kj6 =>
     have H := HA.out
     clear HA
     simp only [fit_Fits.j1] at H
     by_cases c15 : x26_6 = true
     ·
      subst c15
      have H1 : (fit_Fits.j5 kj6 l0 a1 x5_1 l0 (l0.length : Int) x10_1) = some r := by rw [if_pos rfl] at H; exact H
      clear H
      have H := H1
      clear H1
      have H' := Aside0.mk H
      clear H
      go_wp2
      repeat (go_quiet (fail); try go_wp2)
      go_meet
      case rel => exact ⟨_, (x5_1), H', ⟨by have := HK1.out; have := HJ6.out; first | omega | exact Nat.le_refl _⟩, ⟨zr HO_5⟩, ⟨by repeat (first | (with_reducible first | exact HB.out | apply qd | apply qe | apply qf | refine below_set ?_ GE146.out) | exact HB.out)⟩⟩
     replace c15 := Bool.eq_false_iff.mpr c15
     subst c15
     have H1 : (if (x5_1.length : Int) > 0 then (if 0 < (x5_1.length : Int) then (if 0 ≤ (rd x5_1 0) then (if (rd x5_1 0) < (l0.length : Int) then (fit_Fits.j2 kj6 l0 a1 x5_1 x10_1 l0 (l0.length : Int) x10_1 (decide (((rd_T35 l0 x10_1).f1) < ((rd_T35 l0 (rd x5_1 0)).f1))) ((rd_T35 l0 x10_1).f0) ((rd_T35 l0 x10_1).f1) ((rd_T35 l0 x10_1).f2)) else (none)) else (none)) else (none)) else (fit_Fits.j2 kj6 l0 a1 x5_1 x10_1 l0 (l0.length : Int) x10_1 false ((rd_T35 l0 x10_1).f0) ((rd_T35 l0 x10_1).f1) ((rd_T35 l0 x10_1).f2))) = some r := by rw [if_neg (show ¬ (false = true) by decide)] at H; exact H
     clear H
     have H := H1
     clear H1
     have HC16 := Aside0.mk H
     clear H
     go_upto_region 6 with (fail)
     repeat (go_quiet (fail); go_upto_region 6 with (fail))
     go_cut [41] (fun v41 wc => ∃ (kq : Nat) (x41_15 : Bool), v41 = .bool x41_15 ∧ Aside0 (fit_Fits.j2 kq l0 a1 x5_1 x10_1 l0 (l0.length : Int) x10_1 x41_15 ((rd_T35 l0 x10_1).f0) ((rd_T35 l0 x10_1).f1) ((rd_T35 l0 x10_1).f2) = some r) ∧ Aside0 (kq ≤ kj6) ∧ Aside0 (Kd.R (Kd.int .i64) 3 wc w.heap.size (fun _ => True) u5 x5_1) ∧ Aside0 (wc.heap[gb146]? = some (.cells #[.int .i64 ((rd_T35 l0 x10_1).f0), .int .i64 ((rd_T35 l0 x10_1).f1), .bool ((rd_T35 l0 x10_1).f2)] 35 (0, 0))) ∧ Aside0 (Below w.heap.size w wc))
     case first =>
      have H := HC16.out
      clear HC16
      by_cases c17 : (x5_1.length : Int) > 0
      rotate_left
      ·
       rw [if_neg c17] at H
       have c17b0 : decide (0 < (x5_1.length : Int)) = false := decide_eq_false c17
       have c17b1 : decide (0 < x5_1.length) = false := decide_eq_false (by omega)
       clear c17
       (first | rw [c17b0] | (simp only [i64_w, i32_w]; rw [c17b0]) | skip)
       have H' := Aside0.mk H
       clear H
       obtain ⟨Ao23, co23, eo23⟩ := Kd.R_slice HO_5.out
       subst eo23
       go_wp2
       repeat (go_quiet (fail); try go_wp2)
       go_meet
       case rel => exact ⟨_, (false), (by first | rfl | (simp; done) | (simp [*]; done)), H', ⟨by have := HK1.out; have := HJ6.out; first | omega | exact Nat.le_refl _⟩, ⟨zr HO_5⟩, ⟨by (with_reducible repeat (first | refine blk_drewN ?_ _ | refine blk_drew ?_ | refine blk_alloc ?_ _)); exact BK146.out⟩, ⟨by repeat (first | (with_reducible first | exact HB.out | apply qd | apply qe | apply qf | refine below_set ?_ GE146.out) | exact HB.out)⟩⟩
      rw [if_pos c17] at H
      have c17b0 : decide (0 < (x5_1.length : Int)) = true := decide_eq_true c17
      have c17b1 : decide (0 < x5_1.length) = true := decide_eq_true (by omega)
      clear c17
      (first | rw [c17b0] | (simp only [i64_w, i32_w]; rw [c17b0]) | skip)
      by_cases c18 : 0 < (x5_1.length : Int)
      rotate_left
      ·
       rw [if_neg c18] at H
       exact absurd H (by simp)
      rw [if_pos c18] at H
      have c18b0 : decide (0 < (x5_1.length : Int)) = true := decide_eq_true c18
      have c18b1 : decide (0 < x5_1.length) = true := decide_eq_true (by omega)
      clear c18
      by_cases c19 : 0 ≤ (rd x5_1 0)
      rotate_left
      ·
       rw [if_neg c19] at H
       exact absurd H (by simp)
      rw [if_pos c19] at H
      have c19b0 : decide (0 ≤ (rd x5_1 0)) = true := decide_eq_true c19
      clear c19
      by_cases c20 : (rd x5_1 0) < (l0.length : Int)
      rotate_left
      ·
       rw [if_neg c20] at H
       exact absurd H (by simp)
      rw [if_pos c20] at H
      have c20b0 : decide ((rd x5_1 0) < (l0.length : Int)) = true := decide_eq_true c20
      clear c20
      have H' := Aside0.mk H
      clear H
      obtain ⟨Ao21, co21, eo21⟩ := Kd.R_slice HO_5.out
      subst eo21
      have hcz22_0 : wc.cell? ⟨gb146, 0, none⟩ = some (.int .i64 ((rd_T35 l0 x10_1).f0)) := (blk_cell BK146.out 0).trans rfl
      have hcz22_1 : wc.cell? ⟨gb146, 1, none⟩ = some (.int .i64 ((rd_T35 l0 x10_1).f1)) := (blk_cell BK146.out 1).trans rfl
      have hcz22_2 : wc.cell? ⟨gb146, 2, none⟩ = some (.bool ((rd_T35 l0 x10_1).f2)) := (blk_cell BK146.out 2).trans rfl
      have hfz22_0 := blk_frozen BK146.out 0
      have hfz22_1 := blk_frozen BK146.out 1
      have hfz22_2 := blk_frozen BK146.out 2
      have p147 : 0 ≤ (0 : Int) := (by omega)
      have q147 : 0 < (x5_1.length : Int) := zu
      obtain ⟨ad147, e147, hx147_0⟩ := Kd.at_int (Kd.R_reads' HO_5.out).2.2 0 p147 q147
      cases e147
      have qi147 : (0 < x5_1.length) = True := eq_true (by omega)
      (try rw [show ((0 : Int)).toNat = 0 from rfl] at hx147_0)
      (try rw [Addr.add_zero'] at hx147_0)
      replace p147 := eq_true p147
      replace q147 := eq_true q147
      have p148 : 0 ≤ ((rd x5_1 0) : Int) := zu
      have q148 : (rd x5_1 0) < (l0.length : Int) := zu
      obtain ⟨ad148, e148, hx148_0, hx148_1, hx148_2⟩ := at_T35 HR0.out (rd x5_1 0) p148 q148
      obtain rfl : ad145 = ad148 := (by injection e148)
      replace hx148_0 := zw HB hx148_0
      replace hx148_1 := zw HB hx148_1
      replace hx148_2 := zw HB hx148_2
      replace p148 := eq_true p148
      replace q148 := eq_true q148
      go_wp2
      repeat (go_quiet (fail); try go_wp2)
      go_meet
      case rel => exact ⟨_, (decide (((rd_T35 l0 x10_1).f1) < ((rd_T35 l0 (rd x5_1 0)).f1))), (by first | rfl | (simp; done) | (simp [*]; done)), H', ⟨by have := HK1.out; have := HJ6.out; first | omega | exact Nat.le_refl _⟩, ⟨zr HO_5⟩, ⟨by (with_reducible repeat (first | refine blk_drewN ?_ _ | refine blk_drew ?_ | refine blk_alloc ?_ _)); exact BK146.out⟩, ⟨by repeat (first | (with_reducible first | exact HB.out | apply qd | apply qe | apply qf | refine below_set ?_ GE146.out) | exact HB.out)⟩⟩
     clear HC16
     try clear c1
     try clear p1
     try clear q1
     try clear hx1
     try clear qi1
     try clear c2
     try clear p2
     try clear c3
     try clear c3b0
     try clear c5
     try clear c5b0
     try clear c6
     try clear c6b0
     try clear c8
     try clear c10
     try clear c10b0
     try clear q11
     try clear c12
     try clear p14
     try clear q14
     try clear hx14
     try clear qi14
     try clear c15
     try clear c17
     try clear c17b0
     try clear c17b1
     try clear c18
     try clear c18b0
     try clear c18b1
     try clear c19
     try clear c19b0
     try clear c20
     try clear c20b0
     try clear hcz13_0
     try clear hcz13_1
     try clear hcz13_2
     try clear hcz14_0
     try clear hcz14_1
     try clear hcz14_2
     try clear hcz22_0
     try clear hcz22_1
     try clear hcz22_2
     try clear hcz9_0
     try clear hcz9_1
     try clear hcz9_2
     try clear hfz13_0
     try clear hfz13_1
     try clear hfz13_2
     try clear hfz14_0
     try clear hfz14_1
     try clear hfz14_2
     try clear hfz22_0
     try clear hfz22_1
     try clear hfz22_2
     try clear hfz9_0
     try clear hfz9_1
     try clear hfz9_2
     try clear hx145_0
     try clear hx145_1
     try clear hx145_2
     try clear hx147_0
     try clear hx148_0
     try clear hx148_1
     try clear hx148_2
     try clear p1
     try clear p14
     try clear p145
     try clear p147
     try clear p148
     try clear p2
     try clear q1
     try clear q11
     try clear q14
     try clear q145
     try clear q147
     try clear q148
     obtain ⟨kq, x41_15, rfl, HA, HJ15, HO_5, BK146, HB⟩ := hcut
     cases kq with
     | zero => exact absurd HA.out (by simp [fit_Fits.j2])
     | succ kj15 =>
      have H := HA.out
      clear HA
      simp only [fit_Fits.j2] at H
      have HC24 := Aside0.mk H
      clear H
      go_upto_if 41 with (fail)
      repeat (go_quiet (fail); go_upto_if 41 with (fail))
      go_cut [5] (fun v5 wc => ∃ (kq : Nat) (x5_23 : List Int), Aside0 (fit_Fits.j3 kq l0 a1 x5_23 x10_1 l0 (l0.length : Int) x10_1 ((rd_T35 l0 x10_1).f0) ((rd_T35 l0 x10_1).f1) ((rd_T35 l0 x10_1).f2) = some r) ∧ Aside0 (kq ≤ kj15) ∧ Aside0 (Kd.R (Kd.int .i64) 3 wc w.heap.size (fun _ => True) v5 x5_23) ∧ Aside0 (wc.heap[gb146]? = some (.cells #[.int .i64 ((rd_T35 l0 x10_1).f0), .int .i64 ((rd_T35 l0 x10_1).f1), .bool ((rd_T35 l0 x10_1).f2)] 35 (0, 0))) ∧ Aside0 (Below w.heap.size w wc))
      case first =>
       have H := HC24.out
       clear HC24
       by_cases c25 : x41_15 = true
       ·
        subst c25
        have H1 : (fit_Fits.j3 kj15 l0 a1 ([] : List Int) x10_1 l0 (l0.length : Int) x10_1 ((rd_T35 l0 x10_1).f0) ((rd_T35 l0 x10_1).f1) ((rd_T35 l0 x10_1).f2)) = some r := by rw [if_pos rfl] at H; exact H
        clear H
        have H := H1
        clear H1
        have H' := Aside0.mk H
        clear H
        go_wp2
        repeat (go_quiet (fail); try go_wp2)
        go_meet
        case rel => exact ⟨_, (([] : List Int)), H', ⟨by have := HK1.out; have := HJ6.out; have := HJ15.out; first | omega | exact Nat.le_refl _⟩, ⟨by first | exact Kd.R_nil _ _ _ _ _ | exact Kd.N_nil _ _ _ _ _ | exact Kd.V_nil _ _ _ _ _ | exact Kd.Q_nil _ _ _ _ _ | exact Kd.S_nil _ _ _ _ _⟩, ⟨by (with_reducible repeat (first | refine blk_drewN ?_ _ | refine blk_drew ?_ | refine blk_alloc ?_ _)); exact BK146.out⟩, ⟨by repeat (first | (with_reducible first | exact HB.out | apply qd | apply qe | apply qf | refine below_set ?_ GE146.out) | exact HB.out)⟩⟩
       replace c25 := Bool.eq_false_iff.mpr c25
       subst c25
       have H1 : (fit_Fits.j3 kj15 l0 a1 x5_1 x10_1 l0 (l0.length : Int) x10_1 ((rd_T35 l0 x10_1).f0) ((rd_T35 l0 x10_1).f1) ((rd_T35 l0 x10_1).f2)) = some r := by rw [if_neg (show ¬ (false = true) by decide)] at H; exact H
       clear H
       have H := H1
       clear H1
       have H' := Aside0.mk H
       clear H
       go_wp2
       repeat (go_quiet (fail); try go_wp2)
       go_meet
       case rel => exact ⟨_, (x5_1), H', ⟨by have := HK1.out; have := HJ6.out; have := HJ15.out; first | omega | exact Nat.le_refl _⟩, ⟨zr HO_5⟩, ⟨by (with_reducible repeat (first | refine blk_drewN ?_ _ | refine blk_drew ?_ | refine blk_alloc ?_ _)); exact BK146.out⟩, ⟨by repeat (first | (with_reducible first | exact HB.out | apply qd | apply qe | apply qf | refine below_set ?_ GE146.out) | exact HB.out)⟩⟩
      clear HC24
      try clear c1
      try clear p1
      try clear q1
      try clear hx1
      try clear qi1
      try clear c2
      try clear p2
      try clear c3
      try clear c3b0
      try clear c5
      try clear c5b0
      try clear c6
      try clear c6b0
      try clear c8
      try clear c10
      try clear c10b0
      try clear q11
      try clear c12
      try clear p14
      try clear q14
      try clear hx14
      try clear qi14
      try clear c15
      try clear c17
      try clear c17b0
      try clear c17b1
      try clear c18
      try clear c18b0
      try clear c18b1
      try clear c19
      try clear c19b0
      try clear c20
      try clear c20b0
      try clear c25
      try clear hcz13_0
      try clear hcz13_1
      try clear hcz13_2
      try clear hcz14_0
      try clear hcz14_1
      try clear hcz14_2
      try clear hcz22_0
      try clear hcz22_1
      try clear hcz22_2
      try clear hcz9_0
      try clear hcz9_1
      try clear hcz9_2
      try clear hfz13_0
      try clear hfz13_1
      try clear hfz13_2
      try clear hfz14_0
      try clear hfz14_1
      try clear hfz14_2
      try clear hfz22_0
      try clear hfz22_1
      try clear hfz22_2
      try clear hfz9_0
      try clear hfz9_1
      try clear hfz9_2
      try clear hx145_0
      try clear hx145_1
      try clear hx145_2
      try clear hx147_0
      try clear hx148_0
      try clear hx148_1
      try clear hx148_2
      try clear p1
      try clear p14
      try clear p145
      try clear p147
      try clear p148
      try clear p2
      try clear q1
      try clear q11
      try clear q14
      try clear q145
      try clear q147
      try clear q148
      obtain ⟨kq, x5_23, HA, HJ23, HO_5, BK146, HB⟩ := hcut
      cases kq with
      | zero => exact absurd HA.out (by simp [fit_Fits.j3])
      | succ kj23 =>
       have H := HA.out
       clear HA
       simp only [fit_Fits.j3] at H
       have HC26 := Aside0.mk H
       clear H
       go_upto_region 8 with (fail)
       repeat (go_quiet (fail); go_upto_region 8 with (fail))
       go_cut [56] (fun v56 wc => ∃ (kq : Nat) (x56_25 : Bool), v56 = .bool x56_25 ∧ Aside0 (fit_Fits.j4 kq l0 a1 x5_23 x10_1 l0 (l0.length : Int) x10_1 x56_25 = some r) ∧ Aside0 (kq ≤ kj23) ∧ Aside0 (Kd.R (Kd.int .i64) 3 wc w.heap.size (fun _ => True) u5 x5_23) ∧ Aside0 (wc.heap[gb146]? = some (.cells #[.int .i64 ((rd_T35 l0 x10_1).f0), .int .i64 ((rd_T35 l0 x10_1).f1), .bool ((rd_T35 l0 x10_1).f2)] 35 (0, 0))) ∧ Aside0 (Below w.heap.size w wc))
       case first =>
        have H := HC26.out
        clear HC26
        by_cases c27 : (x5_23.length : Int) = 0
        ·
         rw [if_pos c27] at H
         have c27b0 : ((x5_23.length : Int) == 0) = true := beq_iff_eq.mpr c27
         have c27b1 : ((x5_23.length : Int) != 0) = false := bne_eq_false_iff_eq.mpr c27
         clear c27
         (first | rw [c27b0] | (simp only [i64_w, i32_w]; rw [c27b0]) | skip)
         have H' := Aside0.mk H
         clear H
         obtain ⟨Ao28, co28, eo28⟩ := Kd.R_slice HO_5.out
         subst eo28
         go_wp2
         repeat (go_quiet (fail); try go_wp2)
         go_meet
         case rel => exact ⟨_, (true), (by first | rfl | (simp; done) | (simp [*]; done)), H', ⟨by have := HK1.out; have := HJ6.out; have := HJ15.out; have := HJ23.out; first | omega | exact Nat.le_refl _⟩, ⟨zr HO_5⟩, ⟨by (with_reducible repeat (first | refine blk_drewN ?_ _ | refine blk_drew ?_ | refine blk_alloc ?_ _)); exact BK146.out⟩, ⟨by repeat (first | (with_reducible first | exact HB.out | apply qd | apply qe | apply qf | refine below_set ?_ GE146.out) | exact HB.out)⟩⟩
        rw [if_neg c27] at H
        have c27b0 : ((x5_23.length : Int) == 0) = false := beq_eq_false_iff_ne.mpr c27
        have c27b1 : ((x5_23.length : Int) != 0) = true := bne_iff_ne.mpr c27
        have c27b2 : ¬ (x5_23 = []) := fun h_ => c27 (by rw [h_]; rfl)
        (first | rw [c27b0] | (simp only [i64_w, i32_w]; rw [c27b0]) | skip)
        by_cases c29 : 0 < (x5_23.length : Int)
        rotate_left
        ·
         rw [if_neg c29] at H
         exact absurd H (by simp)
        rw [if_pos c29] at H
        have c29b0 : decide (0 < (x5_23.length : Int)) = true := decide_eq_true c29
        have c29b1 : decide (0 < x5_23.length) = true := decide_eq_true (by omega)
        clear c29
        by_cases c30 : 0 ≤ (rd x5_23 0)
        rotate_left
        ·
         rw [if_neg c30] at H
         exact absurd H (by simp)
        rw [if_pos c30] at H
        have c30b0 : decide (0 ≤ (rd x5_23 0)) = true := decide_eq_true c30
        clear c30
        by_cases c31 : (rd x5_23 0) < (l0.length : Int)
        rotate_left
        ·
         rw [if_neg c31] at H
         exact absurd H (by simp)
        rw [if_pos c31] at H
        have c31b0 : decide ((rd x5_23 0) < (l0.length : Int)) = true := decide_eq_true c31
        clear c31
        have H' := Aside0.mk H
        clear H
        obtain ⟨Ao32, co32, eo32⟩ := Kd.R_slice HO_5.out
        subst eo32
        have hcz33_0 : wc.cell? ⟨gb146, 0, none⟩ = some (.int .i64 ((rd_T35 l0 x10_1).f0)) := (blk_cell BK146.out 0).trans rfl
        have hcz33_1 : wc.cell? ⟨gb146, 1, none⟩ = some (.int .i64 ((rd_T35 l0 x10_1).f1)) := (blk_cell BK146.out 1).trans rfl
        have hcz33_2 : wc.cell? ⟨gb146, 2, none⟩ = some (.bool ((rd_T35 l0 x10_1).f2)) := (blk_cell BK146.out 2).trans rfl
        have hfz33_0 := blk_frozen BK146.out 0
        have hfz33_1 := blk_frozen BK146.out 1
        have hfz33_2 := blk_frozen BK146.out 2
        have p149 : 0 ≤ (0 : Int) := (by omega)
        have q149 : 0 < (x5_23.length : Int) := zu
        obtain ⟨ad149, e149, hx149_0⟩ := Kd.at_int (Kd.R_reads' HO_5.out).2.2 0 p149 q149
        cases e149
        have qi149 : (0 < x5_23.length) = True := eq_true (by omega)
        (try rw [show ((0 : Int)).toNat = 0 from rfl] at hx149_0)
        (try rw [Addr.add_zero'] at hx149_0)
        replace p149 := eq_true p149
        replace q149 := eq_true q149
        have p150 : 0 ≤ ((rd x5_23 0) : Int) := zu
        have q150 : (rd x5_23 0) < (l0.length : Int) := zu
        obtain ⟨ad150, e150, hx150_0, hx150_1, hx150_2⟩ := at_T35 HR0.out (rd x5_23 0) p150 q150
        obtain rfl : ad145 = ad150 := (by injection e150)
        replace hx150_0 := zw HB hx150_0
        replace hx150_1 := zw HB hx150_1
        replace hx150_2 := zw HB hx150_2
        replace p150 := eq_true p150
        replace q150 := eq_true q150
        go_wp2
        repeat (go_quiet (fail); try go_wp2)
        go_meet
        case rel => exact ⟨_, ((((rd_T35 l0 x10_1).f1) == ((rd_T35 l0 (rd x5_23 0)).f1))), (by first | rfl | (simp; done) | (simp [*]; done)), H', ⟨by have := HK1.out; have := HJ6.out; have := HJ15.out; have := HJ23.out; first | omega | exact Nat.le_refl _⟩, ⟨zr HO_5⟩, ⟨by (with_reducible repeat (first | refine blk_drewN ?_ _ | refine blk_drew ?_ | refine blk_alloc ?_ _)); exact BK146.out⟩, ⟨by repeat (first | (with_reducible first | exact HB.out | apply qd | apply qe | apply qf | refine below_set ?_ GE146.out) | exact HB.out)⟩⟩
       clear HC26
       try clear c1
       try clear p1
       try clear q1
       try clear hx1
       try clear qi1
       try clear c2
       try clear p2
       try clear c3
       try clear c3b0
       try clear c5
       try clear c5b0
       try clear c6
       try clear c6b0
       try clear c8
       try clear c10
       try clear c10b0
       try clear q11
       try clear c12
       try clear p14
       try clear q14
       try clear hx14
       try clear qi14
       try clear c15
       try clear p15
       try clear q15
       try clear hx15
       try clear c17
       try clear c17b0
       try clear c17b1
       try clear c18
       try clear c18b0
       try clear c18b1
       try clear c19
       try clear c19b0
       try clear c20
       try clear c20b0
       try clear c25
       try clear c27
       try clear c27b0
       try clear c27b1
       try clear c27b2
       try clear c29
       try clear c29b0
       try clear c29b1
       try clear c30
       try clear c30b0
       try clear c31
       try clear c31b0
       try clear hcz13_0
       try clear hcz13_1
       try clear hcz13_2
       try clear hcz14_0
       try clear hcz14_1
       try clear hcz14_2
       try clear hcz22_0
       try clear hcz22_1
       try clear hcz22_2
       try clear hcz33_0
       try clear hcz33_1
       try clear hcz33_2
       try clear hcz9_0
       try clear hcz9_1
       try clear hcz9_2
       try clear hfz13_0
       try clear hfz13_1
       try clear hfz13_2
       try clear hfz14_0
       try clear hfz14_1
       try clear hfz14_2
       try clear hfz22_0
       try clear hfz22_1
       try clear hfz22_2
       try clear hfz33_0
       try clear hfz33_1
       try clear hfz33_2
       try clear hfz9_0
       try clear hfz9_1
       try clear hfz9_2
       try clear hx145_0
       try clear hx145_1
       try clear hx145_2
       try clear hx147_0
       try clear hx148_0
       try clear hx148_1
       try clear hx148_2
       try clear hx149_0
       try clear hx150_0
       try clear hx150_1
       try clear hx150_2
       try clear p1
       try clear p14
       try clear p145
       try clear p147
       try clear p148
       try clear p149
       try clear p150
       try clear p2
       try clear q1
       try clear q11
       try clear q14
       try clear q145
       try clear q147
       try clear q148
       try clear q149
       try clear q150
       obtain ⟨kq, x56_25, rfl, HA, HJ25, HO_5, BK146, HB⟩ := hcut
       cases kq with
       | zero => exact absurd HA.out (by simp [fit_Fits.j4])
       | succ kj25 =>
        have H := HA.out
        clear HA
        simp only [fit_Fits.j4] at H
        by_cases c34 : x56_25 = true
        rotate_left
        ·
         replace c34 := Bool.eq_false_iff.mpr c34
         subst c34
         have H1 : (fit_Fits.j5 kj25 l0 a1 x5_23 l0 (l0.length : Int) x10_1) = some r := by rw [if_neg (show ¬ (false = true) by decide)] at H; exact H
         clear H
         have H := H1
         clear H1
         have H' := Aside0.mk H
         clear H
         go_wp2
         repeat (go_quiet (fail); try go_wp2)
         go_meet
         case rel => exact ⟨_, (x5_23), H', ⟨by have := HK1.out; have := HJ6.out; have := HJ15.out; have := HJ23.out; have := HJ25.out; first | omega | exact Nat.le_refl _⟩, ⟨zr HO_5⟩, ⟨by repeat (first | (with_reducible first | exact HB.out | apply qd | apply qe | apply qf | refine below_set ?_ GE146.out) | exact HB.out)⟩⟩
        subst c34
        have H1 : (if x5_23.length < 17592186044416 then (fit_Fits.j5 kj25 l0 a1 (x5_23 ++ [x10_1]) l0 (l0.length : Int) x10_1) else (none)) = some r := by rw [if_pos rfl] at H; exact H
        clear H
        have H := H1
        clear H1
        by_cases c35 : x5_23.length < 17592186044416
        rotate_left
        ·
         rw [if_neg c35] at H
         exact absurd H (by simp)
        rw [if_pos c35] at H
        have LMc35 := Aside0.mk c35
        clear c35
        obtain ⟨y151, hy151⟩ : ∃ y_ : List Int, y_ = (x5_23 ++ [x10_1]) := ⟨_, rfl⟩
        replace H : (fit_Fits.j5 kj25 l0 a1 y151 l0 (l0.length : Int) x10_1) = some r := by first | (rw [hy151]; with_reducible exact H) | (have H2_ := (Option.bind_some _ _).symm.trans H; rw [hy151]; with_reducible exact H2_) | (have H2_ := (Option.bind_some _ _).symm.trans H; with_reducible exact H2_) | with_reducible exact H | (rw [hy151]; exact H) | exact H
        have Ny151 := Aside0.mk hy151
        clear hy151
        have H' := Aside0.mk H
        clear H
        go_wp2_with (first | ((with_reducible refine gate_builtin (b := .append) (xs := #[.tmp 57, .tmp 59]) rfl ?_); at_builtin; refine Kd.R_append (Kd.int .i64) (w0 := w) w.heap.size rfl (.tmp 57) (.tmp 59) 38 3 (.int .i64 0) 8 rfl Try.underlying38 info3 rfl (by decide) (by omega) u5 x5_23 x10_1 [.int .i64 x10_1] (fun _ => True) (fun _ => False) rfl rfl ?aP (fun _ hk => hk.elim) ?aF ?aO ?aB ?aS ?aL ?_; (case aP => exact rfl); (case aB => exact (by repeat (first | (with_reducible first | exact HB.out | apply qd | apply qe | apply qf | refine below_set ?_ GE146.out) | exact HB.out))); (case aF => exact (fun _ _ => trivial)); (case aO => exact (zr HO_5)); (case aS => exact (below_size (by repeat (first | (with_reducible first | exact HB.out | apply qd | apply qe | apply qf | refine below_set ?_ GE146.out) | exact HB.out)))); (case aL => have := LMc35.out; omega); intro v152 w36 ho hb hg hat; rw [← Ny151.out] at ho; have n0_ := Aside0.mk (blk_grown (g := gb146) (o := .cells #[.int .i64 ((rd_T35 l0 x10_1).f0), .int .i64 ((rd_T35 l0 x10_1).f1), .bool ((rd_T35 l0 x10_1).f2)] 35 (0, 0)) (by (with_reducible repeat (first | refine blk_drewN ?_ _ | refine blk_drew ?_ | refine blk_alloc ?_ _)); exact BK146.out) hg (Kd.R_ne HO_5.out BK146.out (by decide))); have n1_ := Aside0.mk (hb); have n2_ := Aside0.mk (ho); clear BK146; clear HB; clear HO_5; have BK146 := n0_; have HB := n1_; have HO153 := n2_; clear n0_ n1_ n2_; clear ho hb hg hat))
        repeat (go_quiet (first | ((with_reducible refine gate_builtin (b := .append) (xs := #[.tmp 57, .tmp 59]) rfl ?_); at_builtin; refine Kd.R_append (Kd.int .i64) (w0 := w) w.heap.size rfl (.tmp 57) (.tmp 59) 38 3 (.int .i64 0) 8 rfl Try.underlying38 info3 rfl (by decide) (by omega) u5 x5_23 x10_1 [.int .i64 x10_1] (fun _ => True) (fun _ => False) rfl rfl ?aP (fun _ hk => hk.elim) ?aF ?aO ?aB ?aS ?aL ?_; (case aP => exact rfl); (case aB => exact (by repeat (first | (with_reducible first | exact HB.out | apply qd | apply qe | apply qf | refine below_set ?_ GE146.out) | exact HB.out))); (case aF => exact (fun _ _ => trivial)); (case aO => exact (zr HO_5)); (case aS => exact (below_size (by repeat (first | (with_reducible first | exact HB.out | apply qd | apply qe | apply qf | refine below_set ?_ GE146.out) | exact HB.out)))); (case aL => have := LMc35.out; omega); intro v152 w36 ho hb hg hat; rw [← Ny151.out] at ho; have n0_ := Aside0.mk (blk_grown (g := gb146) (o := .cells #[.int .i64 ((rd_T35 l0 x10_1).f0), .int .i64 ((rd_T35 l0 x10_1).f1), .bool ((rd_T35 l0 x10_1).f2)] 35 (0, 0)) (by (with_reducible repeat (first | refine blk_drewN ?_ _ | refine blk_drew ?_ | refine blk_alloc ?_ _)); exact BK146.out) hg (Kd.R_ne HO_5.out BK146.out (by decide))); have n1_ := Aside0.mk (hb); have n2_ := Aside0.mk (ho); clear BK146; clear HB; clear HO_5; have BK146 := n0_; have HB := n1_; have HO153 := n2_; clear n0_ n1_ n2_; clear ho hb hg hat)); try go_wp2_with (first | ((with_reducible refine gate_builtin (b := .append) (xs := #[.tmp 57, .tmp 59]) rfl ?_); at_builtin; refine Kd.R_append (Kd.int .i64) (w0 := w) w.heap.size rfl (.tmp 57) (.tmp 59) 38 3 (.int .i64 0) 8 rfl Try.underlying38 info3 rfl (by decide) (by omega) u5 x5_23 x10_1 [.int .i64 x10_1] (fun _ => True) (fun _ => False) rfl rfl ?aP (fun _ hk => hk.elim) ?aF ?aO ?aB ?aS ?aL ?_; (case aP => exact rfl); (case aB => exact (by repeat (first | (with_reducible first | exact HB.out | apply qd | apply qe | apply qf | refine below_set ?_ GE146.out) | exact HB.out))); (case aF => exact (fun _ _ => trivial)); (case aO => exact (zr HO_5)); (case aS => exact (below_size (by repeat (first | (with_reducible first | exact HB.out | apply qd | apply qe | apply qf | refine below_set ?_ GE146.out) | exact HB.out)))); (case aL => have := LMc35.out; omega); intro v152 w36 ho hb hg hat; rw [← Ny151.out] at ho; have n0_ := Aside0.mk (blk_grown (g := gb146) (o := .cells #[.int .i64 ((rd_T35 l0 x10_1).f0), .int .i64 ((rd_T35 l0 x10_1).f1), .bool ((rd_T35 l0 x10_1).f2)] 35 (0, 0)) (by (with_reducible repeat (first | refine blk_drewN ?_ _ | refine blk_drew ?_ | refine blk_alloc ?_ _)); exact BK146.out) hg (Kd.R_ne HO_5.out BK146.out (by decide))); have n1_ := Aside0.mk (hb); have n2_ := Aside0.mk (ho); clear BK146; clear HB; clear HO_5; have BK146 := n0_; have HB := n1_; have HO153 := n2_; clear n0_ n1_ n2_; clear ho hb hg hat)))
        go_meet
        case rel => exact ⟨_, (y151), H', ⟨by have := HK1.out; have := HJ6.out; have := HJ15.out; have := HJ23.out; have := HJ25.out; first | omega | exact Nat.le_refl _⟩, ⟨zr HO153⟩, ⟨by repeat (first | (with_reducible first | exact HB.out | apply qd | apply qe | apply qf | refine below_set ?_ GE146.out) | exact HB.out)⟩⟩
   clear HC4
   try clear c1
   try clear p1
   try clear q1
   try clear hx1
   try clear qi1
   try clear c2
   try clear p2
   try clear c3
   try clear c3b0
   try clear c5
   try clear c5b0
   try clear c6
   try clear c6b0
   try clear c8
   try clear c10
   try clear c10b0
   try clear q11
   try clear c12
   try clear p14
   try clear q14
   try clear hx14
   try clear qi14
   try clear c15
   try clear p15
   try clear q15
   try clear hx15
   try clear c17
   try clear c17b0
   try clear c17b1
   try clear c18
   try clear c18b0
   try clear c18b1
   try clear c19
   try clear c19b0
   try clear c20
   try clear c20b0
   try clear c25
   try clear c27
   try clear c27b0
   try clear c27b1
   try clear c27b2
   try clear c29
   try clear c29b0
   try clear c29b1
   try clear c30
   try clear c30b0
   try clear c31
   try clear c31b0
   try clear c34
   try clear c35
   try clear hcz13_0
   try clear hcz13_1
   try clear hcz13_2
   try clear hcz14_0
   try clear hcz14_1
   try clear hcz14_2
   try clear hcz22_0
   try clear hcz22_1
   try clear hcz22_2
   try clear hcz33_0
   try clear hcz33_1
   try clear hcz33_2
   try clear hcz9_0
   try clear hcz9_1
   try clear hcz9_2
   try clear hfz13_0
   try clear hfz13_1
   try clear hfz13_2
   try clear hfz14_0
   try clear hfz14_1
   try clear hfz14_2
   try clear hfz22_0
   try clear hfz22_1
   try clear hfz22_2
   try clear hfz33_0
   try clear hfz33_1
   try clear hfz33_2
   try clear hfz9_0
   try clear hfz9_1
   try clear hfz9_2
   try clear hx145_0
   try clear hx145_1
   try clear hx145_2
   try clear hx147_0
   try clear hx148_0
   try clear hx148_1
   try clear hx148_2
   try clear hx149_0
   try clear hx150_0
   try clear hx150_1
   try clear hx150_2
   try clear p1
   try clear p14
   try clear p145
   try clear p147
   try clear p148
   try clear p149
   try clear p15
   try clear p150
   try clear p2
   try clear q1
   try clear q11
   try clear q14
   try clear q145
   try clear q147
   try clear q148
   try clear q149
   try clear q15
   try clear q150
   obtain ⟨kq, x5_3, HA, HJ3, HO_5, HB⟩ := hcut
   cases kq with
   | zero => exact absurd HA.out (by simp [fit_Fits.j5])
   | succ kj3 =>
    have H := HA.out
    clear HA
    simp only [fit_Fits.j5] at H
    have H' := Aside0.mk H
    clear H
    go_wp2
    repeat (go_quiet (fail); try go_wp2)
    go_roundg kj3
    case measure => have := HK1.out; have := HJ3.out; omega
    case rel => exact ⟨(x5_3), (wrap64 (x10_1 + 1)), (by first | rfl | (simp; done) | (simp [*]; done)), H', ⟨by have := HK1.out; have := HJ3.out; omega⟩, ⟨zr HO_5⟩, ⟨zB HB⟩⟩

end Go.Proofs.Ytglekonhdjploaa.XImageForms
