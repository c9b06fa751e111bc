-- printed by wip/xprint.py
import Derived.Test.YtglekonhdjploaaXImageFormsx0
namespace Go.Proofs.Ytglekonhdjploaa.XImageForms
open Go.RowKit Go.Proofs.YtglekonhdjploaaW.PrintWords Go.Proofs.YtglekonhdjploaaW.PrintLast Go.Proofs.YtglekonhdjploaaW.PrintMore
attribute [local go_sem] max2_int min2_int max_two min_two max_three min_three max_four min_four
set_option linter.unusedVariables false
set_option linter.unusedSimpArgs false

/-! ### darningref4_Fits: function 88 -/
mutual
def darningref4_Fits.l0 : Nat → List (S35) → Int → List Int → List (S35) → Int → Int → Option (List Int)
 | 0, _, _, _, _, _, _ => none
 | k + 1, x0, x1, x5, x10, x11, x12 => if x12 < x11 then (if 0 ≤ x12 then (if x12 < (x10.length : Int) then (if (rd_T35 x10 x12).f2 = true then (darningref4_Fits.j1 k x0 x1 x5 x12 x10 x11 x12 true ((rd_T35 x10 x12).f0) ((rd_T35 x10 x12).f1) ((rd_T35 x10 x12).f2)) else (darningref4_Fits.j1 k x0 x1 x5 x12 x10 x11 x12 (decide (((rd_T35 x10 x12).f1) < x1)) ((rd_T35 x10 x12).f0) ((rd_T35 x10 x12).f1) ((rd_T35 x10 x12).f2))) else (none)) else (none)) else (some x5)
def darningref4_Fits.j5 : Nat → List (S35) → Int → List Int → List (S35) → Int → Int → Option (List Int)
 | 0, _, _, _, _, _, _ => none
 | k + 1, x0, x1, x5, x10, x11, x12 => darningref4_Fits.l0 k x0 x1 x5 x10 x11 (wrap64 (x12 + 1))
def darningref4_Fits.j1 : Nat → List (S35) → Int → List Int → Int → List (S35) → Int → Int → Bool → Int → Int → Bool → Option (List Int)
 | 0, _, _, _, _, _, _, _, _, _, _, _ => none
 | k + 1, x0, x1, x5, x6, x10, x11, x12, x24, x337000, x337001, x337002 => if x24 = true then (darningref4_Fits.j5 k x0 x1 x5 x10 x11 x12) else (if (x5.length : Int) > 0 then (if 0 < (x5.length : Int) then (if 0 ≤ (rd x5 0) then (if (rd x5 0) < (x0.length : Int) then (darningref4_Fits.j2 k x0 x1 x5 x6 x10 x11 x12 (decide (((rd_T35 x0 (rd x5 0)).f1) > x337001)) x337000 x337001 x337002) else (none)) else (none)) else (none)) else (darningref4_Fits.j2 k x0 x1 x5 x6 x10 x11 x12 false x337000 x337001 x337002))
def darningref4_Fits.j2 : Nat → List (S35) → Int → List Int → Int → List (S35) → Int → Int → Bool → Int → Int → Bool → Option (List Int)
 | 0, _, _, _, _, _, _, _, _, _, _, _ => none
 | k + 1, x0, x1, x5, x6, x10, x11, x12, x39, x337000, x337001, x337002 => if x39 = true then (darningref4_Fits.j3 k x0 x1 ([] : List Int) x6 x10 x11 x12 x337000 x337001 x337002) else (darningref4_Fits.j3 k x0 x1 x5 x6 x10 x11 x12 x337000 x337001 x337002)
def darningref4_Fits.j3 : Nat → List (S35) → Int → List Int → Int → List (S35) → Int → Int → Int → Int → Bool → Option (List Int)
 | 0, _, _, _, _, _, _, _, _, _, _ => none
 | k + 1, x0, x1, x5, x6, x10, x11, x12, x337000, x337001, x337002 => if (x5.length : Int) = 0 then (darningref4_Fits.j4 k x0 x1 x5 x6 x10 x11 x12 true) else (if 0 < (x5.length : Int) then (if 0 ≤ (rd x5 0) then (if (rd x5 0) < (x0.length : Int) then (darningref4_Fits.j4 k x0 x1 x5 x6 x10 x11 x12 (((rd_T35 x0 (rd x5 0)).f1) == x337001)) else (none)) else (none)) else (none))
def darningref4_Fits.j4 : Nat → List (S35) → Int → List Int → Int → List (S35) → Int → Int → Bool → Option (List Int)
 | 0, _, _, _, _, _, _, _, _ => none
 | k + 1, x0, x1, x5, x6, x10, x11, x12, x54 => if x54 = true then (if x5.length < 17592186044416 then (darningref4_Fits.j5 k x0 x1 (x5 ++ [x6]) x10 x11 x12) else (none)) else (darningref4_Fits.j5 k x0 x1 x5 x10 x11 x12)
end
def darningref4_Fits.f (k : Nat) (l0 : List (S35)) (a1 : Int) : Option (List Int) := if a1 < 2 then (some ([] : List Int)) else (darningref4_Fits.l0 k l0 a1 ([] : List Int) l0 (l0.length : Int) 0)
theorem darningref4_Fits.mono_l : ∀ k, (∀ y0 y1 y2 y3 y4 y5, LeO (darningref4_Fits.l0 k y0 y1 y2 y3 y4 y5) (darningref4_Fits.l0 (k + 1) y0 y1 y2 y3 y4 y5)) ∧ (∀ y0 y1 y2 y3 y4 y5, LeO (darningref4_Fits.j5 k y0 y1 y2 y3 y4 y5) (darningref4_Fits.j5 (k + 1) y0 y1 y2 y3 y4 y5)) ∧ (∀ y0 y1 y2 y3 y4 y5 y6 y7 y8 y9 y10, LeO (darningref4_Fits.j1 k y0 y1 y2 y3 y4 y5 y6 y7 y8 y9 y10) (darningref4_Fits.j1 (k + 1) y0 y1 y2 y3 y4 y5 y6 y7 y8 y9 y10)) ∧ (∀ y0 y1 y2 y3 y4 y5 y6 y7 y8 y9 y10, LeO (darningref4_Fits.j2 k y0 y1 y2 y3 y4 y5 y6 y7 y8 y9 y10) (darningref4_Fits.j2 (k + 1) y0 y1 y2 y3 y4 y5 y6 y7 y8 y9 y10)) ∧ (∀ y0 y1 y2 y3 y4 y5 y6 y7 y8 y9, LeO (darningref4_Fits.j3 k y0 y1 y2 y3 y4 y5 y6 y7 y8 y9) (darningref4_Fits.j3 (k + 1) y0 y1 y2 y3 y4 y5 y6 y7 y8 y9)) ∧ (∀ y0 y1 y2 y3 y4 y5 y6 y7, LeO (darningref4_Fits.j4 k y0 y1 y2 y3 y4 y5 y6 y7) (darningref4_Fits.j4 (k + 1) y0 y1 y2 y3 y4 y5 y6 y7))
 | 0 => ⟨fun _ _ _ _ _ _ r h => by simp [darningref4_Fits.l0] at h, fun _ _ _ _ _ _ r h => by simp [darningref4_Fits.j5] at h, fun _ _ _ _ _ _ _ _ _ _ _ r h => by simp [darningref4_Fits.j1] at h, fun _ _ _ _ _ _ _ _ _ _ _ r h => by simp [darningref4_Fits.j2] at h, fun _ _ _ _ _ _ _ _ _ _ r h => by simp [darningref4_Fits.j3] at h, fun _ _ _ _ _ _ _ _ r h => by simp [darningref4_Fits.j4] at h⟩
 | k + 1 => by
  obtain ⟨ih0, ih1, ih2, ih3, ih4, ih5⟩ := darningref4_Fits.mono_l k
  refine ⟨?_, ?_, ?_, ?_, ?_, ?_⟩
  ·
   intro y0 y1 y2 y3 y4 y5
   unfold darningref4_Fits.l0
   repeat' first
   | (with_reducible exact ih0 _ _ _ _ _ _)
   | (with_reducible exact ih1 _ _ _ _ _ _)
   | (with_reducible exact ih2 _ _ _ _ _ _ _ _ _ _ _)
   | (with_reducible exact ih3 _ _ _ _ _ _ _ _ _ _ _)
   | (with_reducible exact ih4 _ _ _ _ _ _ _ _ _ _)
   | (with_reducible exact ih5 _ _ _ _ _ _ _ _)
   | (with_reducible exact LeO.refl _)
   | (with_reducible exact LeO.none _)
   | (with_reducible refine LeO.ite ?_ ?_)
   | (with_reducible refine LeO.bind ?_ (fun _ => ?_))
   | exact ih0 _ _ _ _ _ _
   | exact ih1 _ _ _ _ _ _
   | exact ih2 _ _ _ _ _ _ _ _ _ _ _
   | exact ih3 _ _ _ _ _ _ _ _ _ _ _
   | exact ih4 _ _ _ _ _ _ _ _ _ _
   | exact ih5 _ _ _ _ _ _ _ _
   | exact LeO.none _
   | refine LeO.ite ?_ ?_
   | refine LeO.bind ?_ (fun _ => ?_)
  ·
   intro y0 y1 y2 y3 y4 y5
   unfold darningref4_Fits.j5
   repeat' first
   | (with_reducible exact ih0 _ _ _ _ _ _)
   | (with_reducible exact ih1 _ _ _ _ _ _)
   | (with_reducible exact ih2 _ _ _ _ _ _ _ _ _ _ _)
   | (with_reducible exact ih3 _ _ _ _ _ _ _ _ _ _ _)
   | (with_reducible exact ih4 _ _ _ _ _ _ _ _ _ _)
   | (with_reducible exact ih5 _ _ _ _ _ _ _ _)
   | (with_reducible exact LeO.refl _)
   | (with_reducible exact LeO.none _)
   | (with_reducible refine LeO.ite ?_ ?_)
   | (with_reducible refine LeO.bind ?_ (fun _ => ?_))
   | exact ih0 _ _ _ _ _ _
   | exact ih1 _ _ _ _ _ _
   | exact ih2 _ _ _ _ _ _ _ _ _ _ _
   | exact ih3 _ _ _ _ _ _ _ _ _ _ _
   | exact ih4 _ _ _ _ _ _ _ _ _ _
   | exact ih5 _ _ _ _ _ _ _ _
   | exact LeO.none _
   | refine LeO.ite ?_ ?_
   | refine LeO.bind ?_ (fun _ => ?_)
  ·
   intro y0 y1 y2 y3 y4 y5 y6 y7 y8 y9 y10
   unfold darningref4_Fits.j1
   repeat' first
   | (with_reducible exact ih0 _ _ _ _ _ _)
   | (with_reducible exact ih1 _ _ _ _ _ _)
   | (with_reducible exact ih2 _ _ _ _ _ _ _ _ _ _ _)
   | (with_reducible exact ih3 _ _ _ _ _ _ _ _ _ _ _)
   | (with_reducible exact ih4 _ _ _ _ _ _ _ _ _ _)
   | (with_reducible exact ih5 _ _ _ _ _ _ _ _)
   | (with_reducible exact LeO.refl _)
   | (with_reducible exact LeO.none _)
   | (with_reducible refine LeO.ite ?_ ?_)
   | (with_reducible refine LeO.bind ?_ (fun _ => ?_))
   | exact ih0 _ _ _ _ _ _
   | exact ih1 _ _ _ _ _ _
   | exact ih2 _ _ _ _ _ _ _ _ _ _ _
   | exact ih3 _ _ _ _ _ _ _ _ _ _ _
   | exact ih4 _ _ _ _ _ _ _ _ _ _
   | exact ih5 _ _ _ _ _ _ _ _
   | exact LeO.none _
   | refine LeO.ite ?_ ?_
   | refine LeO.bind ?_ (fun _ => ?_)
  ·
   intro y0 y1 y2 y3 y4 y5 y6 y7 y8 y9 y10
   unfold darningref4_Fits.j2
   repeat' first
   | (with_reducible exact ih0 _ _ _ _ _ _)
   | (with_reducible exact ih1 _ _ _ _ _ _)
   | (with_reducible exact ih2 _ _ _ _ _ _ _ _ _ _ _)
   | (with_reducible exact ih3 _ _ _ _ _ _ _ _ _ _ _)
   | (with_reducible exact ih4 _ _ _ _ _ _ _ _ _ _)
   | (with_reducible exact ih5 _ _ _ _ _ _ _ _)
   | (with_reducible exact LeO.refl _)
   | (with_reducible exact LeO.none _)
   | (with_reducible refine LeO.ite ?_ ?_)
   | (with_reducible refine LeO.bind ?_ (fun _ => ?_))
   | exact ih0 _ _ _ _ _ _
   | exact ih1 _ _ _ _ _ _
   | exact ih2 _ _ _ _ _ _ _ _ _ _ _
   | exact ih3 _ _ _ _ _ _ _ _ _ _ _
   | exact ih4 _ _ _ _ _ _ _ _ _ _
   | exact ih5 _ _ _ _ _ _ _ _
   | exact LeO.none _
   | refine LeO.ite ?_ ?_
   | refine LeO.bind ?_ (fun _ => ?_)
  ·
   intro y0 y1 y2 y3 y4 y5 y6 y7 y8 y9
   unfold darningref4_Fits.j3
   repeat' first
   | (with_reducible exact ih0 _ _ _ _ _ _)
   | (with_reducible exact ih1 _ _ _ _ _ _)
   | (with_reducible exact ih2 _ _ _ _ _ _ _ _ _ _ _)
   | (with_reducible exact ih3 _ _ _ _ _ _ _ _ _ _ _)
   | (with_reducible exact ih4 _ _ _ _ _ _ _ _ _ _)
   | (with_reducible exact ih5 _ _ _ _ _ _ _ _)
   | (with_reducible exact LeO.refl _)
   | (with_reducible exact LeO.none _)
   | (with_reducible refine LeO.ite ?_ ?_)
   | (with_reducible refine LeO.bind ?_ (fun _ => ?_))
   | exact ih0 _ _ _ _ _ _
   | exact ih1 _ _ _ _ _ _
   | exact ih2 _ _ _ _ _ _ _ _ _ _ _
   | exact ih3 _ _ _ _ _ _ _ _ _ _ _
   | exact ih4 _ _ _ _ _ _ _ _ _ _
   | exact ih5 _ _ _ _ _ _ _ _
   | exact LeO.none _
   | refine LeO.ite ?_ ?_
   | refine LeO.bind ?_ (fun _ => ?_)
  ·
   intro y0 y1 y2 y3 y4 y5 y6 y7
   unfold darningref4_Fits.j4
   repeat' first
   | (with_reducible exact ih0 _ _ _ _ _ _)
   | (with_reducible exact ih1 _ _ _ _ _ _)
   | (with_reducible exact ih2 _ _ _ _ _ _ _ _ _ _ _)
   | (with_reducible exact ih3 _ _ _ _ _ _ _ _ _ _ _)
   | (with_reducible exact ih4 _ _ _ _ _ _ _ _ _ _)
   | (with_reducible exact ih5 _ _ _ _ _ _ _ _)
   | (with_reducible exact LeO.refl _)
   | (with_reducible exact LeO.none _)
   | (with_reducible refine LeO.ite ?_ ?_)
   | (with_reducible refine LeO.bind ?_ (fun _ => ?_))
   | exact ih0 _ _ _ _ _ _
   | exact ih1 _ _ _ _ _ _
   | exact ih2 _ _ _ _ _ _ _ _ _ _ _
   | exact ih3 _ _ _ _ _ _ _ _ _ _ _
   | exact ih4 _ _ _ _ _ _ _ _ _ _
   | exact ih5 _ _ _ _ _ _ _ _
   | exact LeO.none _
   | refine LeO.ite ?_ ?_
   | refine LeO.bind ?_ (fun _ => ?_)
theorem darningref4_Fits.mono : ∀ a0 a1 k, LeO (darningref4_Fits.f k a0 a1) (darningref4_Fits.f (k + 1) a0 a1) := by
 intro a0 a1 k
 obtain ⟨ih0, ih1, ih2, ih3, ih4, ih5⟩ := darningref4_Fits.mono_l k
 unfold darningref4_Fits.f
 repeat' first
   | (with_reducible exact ih0 _ _ _ _ _ _)
   | (with_reducible exact ih1 _ _ _ _ _ _)
   | (with_reducible exact ih2 _ _ _ _ _ _ _ _ _ _ _)
   | (with_reducible exact ih3 _ _ _ _ _ _ _ _ _ _ _)
   | (with_reducible exact ih4 _ _ _ _ _ _ _ _ _ _)
   | (with_reducible exact ih5 _ _ _ _ _ _ _ _)
   | (with_reducible exact LeO.refl _)
   | (with_reducible exact LeO.none _)
   | (with_reducible refine LeO.ite ?_ ?_)
   | (with_reducible refine LeO.bind ?_ (fun _ => ?_))
   | exact ih0 _ _ _ _ _ _
   | exact ih1 _ _ _ _ _ _
   | exact ih2 _ _ _ _ _ _ _ _ _ _ _
   | exact ih3 _ _ _ _ _ _ _ _ _ _ _
   | exact ih4 _ _ _ _ _ _ _ _ _ _
   | exact ih5 _ _ _ _ _ _ _ _
   | exact LeO.none _
   | refine LeO.ite ?_ ?_
   | refine LeO.bind ?_ (fun _ => ?_)
set_option maxHeartbeats 8000000 in
set_option maxRecDepth 100000 in
theorem darningref4_Fits.calls (k : Nat) (A0 : Option Addr) (c0 : Nat) (l0 : List (S35)) (a1 : Int) (r : List Int) (w : World) (hr0 : Kd.C k35 w A0 l0.length l0) (hc0 : l0.length ≤ c0) (h : darningref4_Fits.f k l0 a1 = some r) :
  Calls Try.prog 88 #[.slice A0 l0.length c0, .int .i64 a1] w fun e w' => ∃ v0_ : Value, e = .returned (v0_) ∧ Kd.R (Kd.int .i64) 3 w' w.heap.size (fun _ => True) v0_ r ∧ Below w.heap.size w w' := by
 have hu35 := Try.underlying35
 have HR0 := Aside0.mk hr0
 have HC0 := Aside0.mk hc0
 clear hr0 hc0
 have HB := Aside0.mk (Below.refl w.heap.size w)
 have H : (if a1 < 2 then (some ([] : List Int)) else (darningref4_Fits.l0 k l0 a1 ([] : List Int) l0 (l0.length : Int) 0)) = some r := h
 clear h
 by_cases c3 : a1 < 2
 ·
  rw [if_pos c3] at H
  have c3b0 : decide (a1 < 2) = true := decide_eq_true c3
  clear c3
  obtain rfl := Option.some.inj H
  go_enter Try.func88, Try.ntmps88
  go_wp2
  repeat (go_quiet (fail); try go_wp2)
  go_ret
  exact ⟨_, by first | rfl | (simp [errW_none, errW_some] <;> rfl) | (simp [*, errW_none, errW_some] <;> rfl), by first | exact Kd.R_nil _ _ _ _ _ | exact Kd.N_nil _ _ _ _ _ | exact Kd.V_nil _ _ _ _ _ | exact Kd.Q_nil _ _ _ _ _ | exact Kd.S_nil _ _ _ _ _, zB HB⟩
 rw [if_neg c3] at H
 have c3b0 : decide (a1 < 2) = false := decide_eq_false c3
 clear c3
 have H' := Aside0.mk H
 clear H
 go_enter Try.func88, Try.ntmps88
 go_wp2
 repeat (go_quiet (fail); try go_wp2)
 go_loopg [5, 12] k (fun kq v5 v12 w' => ∃ (x5_1 : List Int) (x12_1 : Int), v12 = .int .i64 x12_1 ∧ Aside0 (darningref4_Fits.l0 kq l0 a1 x5_1 l0 (l0.length : Int) x12_1 = some r) ∧ Aside0 (kq ≤ k) ∧ Aside0 (Kd.R (Kd.int .i64) 3 w' w.heap.size (fun _ => True) v5 x5_1) ∧ Aside0 (Below w.heap.size w w'))
 case atStart => exact ⟨(([] : List Int)), (0), (by first | rfl | (simp; done) | (simp [*]; done)), H', ⟨Nat.le_refl _⟩, ⟨by first | exact Kd.R_nil _ _ _ _ _ | exact Kd.N_nil _ _ _ _ _ | exact Kd.V_nil _ _ _ _ _ | exact Kd.Q_nil _ _ _ _ _ | exact Kd.S_nil _ _ _ _ _⟩, ⟨zB HB⟩⟩
 case round =>
  clear H'
  try clear p2
  try clear c3
  try clear c3b0
  obtain ⟨x5_1, x12_1, rfl, HA, HK1, HO_5, HB⟩ := hrel
  cases gk with
  | zero => exact absurd HA.out (by simp [darningref4_Fits.l0])
  | succ k1 =>
   have H := HA.out
   clear HA
   simp only [darningref4_Fits.l0] at H
   by_cases c4 : x12_1 < (l0.length : Int)
   rotate_left
   ·
    rw [if_neg c4] at H
    have c4b0 : decide (x12_1 < (l0.length : Int)) = false := decide_eq_false c4
    clear c4
    obtain rfl := Option.some.inj H
    go_wp2
    repeat (go_quiet (fail); try go_wp2)
    go_ret
    exact ⟨_, by first | rfl | (simp [errW_none, errW_some] <;> rfl) | (simp [*, errW_none, errW_some] <;> rfl), by (with_reducible repeat (first | apply qa | apply qb | apply qc)); exact HO_5.out, zB HB⟩
   rw [if_pos c4] at H
   have c4b0 : decide (x12_1 < (l0.length : Int)) = true := decide_eq_true c4
   clear c4
   have HC5 := Aside0.mk H
   clear H
   go_upto_block 1 with (fail)
   repeat (go_quiet (fail); go_upto_block 1 with (fail))
   go_cut [5] (fun v5 wc => ∃ (kq : Nat) (x5_4 : List Int), Aside0 (darningref4_Fits.j5 kq l0 a1 x5_4 l0 (l0.length : Int) x12_1 = some r) ∧ Aside0 (kq ≤ k1) ∧ Aside0 (Kd.R (Kd.int .i64) 3 wc w.heap.size (fun _ => True) v5 x5_4) ∧ Aside0 (Below w.heap.size w wc))
   case first =>
    have H := HC5.out
    clear HC5
    by_cases c6 : 0 ≤ x12_1
    rotate_left
    ·
     rw [if_neg c6] at H
     exact absurd H (by simp)
    rw [if_pos c6] at H
    have c6b0 : decide (0 ≤ x12_1) = true := decide_eq_true c6
    clear c6
    (first | rw [c6b0] | (simp only [i64_w, i32_w]; rw [c6b0]) | skip)
    by_cases c7 : x12_1 < (l0.length : Int)
    rotate_left
    ·
     rw [if_neg c7] at H
     exact absurd H (by simp)
    rw [if_pos c7] at H
    have c7b0 : decide (x12_1 < (l0.length : Int)) = true := decide_eq_true c7
    clear c7
    have HC8 := Aside0.mk H
    clear H
    have p335 : 0 ≤ (x12_1 : Int) := zu
    have q335 : x12_1 < (l0.length : Int) := zu
    obtain ⟨ad335, e335, hx335_0, hx335_1, hx335_2⟩ := at_T35 HR0.out x12_1 p335 q335
    cases e335
    replace hx335_0 := zw HB hx335_0
    replace hx335_1 := zw HB hx335_1
    replace hx335_2 := zw HB hx335_2
    replace p335 := eq_true p335
    replace q335 := eq_true q335
    go_upto_region 7 with (first | ((with_reducible refine gate_dst (N := 7) rfl ?_); refine box_event ?hg (N := 7) ?hd (cs := #[.int .i64 0, .int .i64 0, .bool false]) (t := 35) ?hr ?_; (case hd => rfl); (case hg => rfl); (case hr => first | (go_simp; done) | (go_simp; rfl)); intro gb336 hg w9 hbox hb; have n0_ := za HO_5 hb; have n1_ := zb HB hb; have n2_ := Aside0.mk (hbox); have n3_ := Aside0.mk ((by rw [hg]; exact (below_size (zB HB)) : w.heap.size ≤ gb336)); have n4_ := Aside0.mk ((by rw [hg]; exact (below_size (zB HB)) : w.heap.size ≤ gb336)); clear HO_5; clear HB; have HO_5 := n0_; have HB := n1_; have BK336 := n2_; have GW336 := n3_; have GE336 := n4_; clear n0_ n1_ n2_ n3_ n4_; clear hb hbox hg; have hcz10_0 : w9.cell? ⟨gb336, 0, none⟩ = some (.int .i64 0) := (blk_cell BK336.out 0).trans rfl; have hcz10_1 : w9.cell? ⟨gb336, 1, none⟩ = some (.int .i64 0) := (blk_cell BK336.out 1).trans rfl; have hcz10_2 : w9.cell? ⟨gb336, 2, none⟩ = some (.bool false) := (blk_cell BK336.out 2).trans rfl; have hfz10_0 := blk_frozen BK336.out 0; have hfz10_1 := blk_frozen BK336.out 1; have hfz10_2 := blk_frozen BK336.out 2))
    repeat (go_quiet (first | ((with_reducible refine gate_dst (N := 7) rfl ?_); refine box_event ?hg (N := 7) ?hd (cs := #[.int .i64 0, .int .i64 0, .bool false]) (t := 35) ?hr ?_; (case hd => rfl); (case hg => rfl); (case hr => first | (go_simp; done) | (go_simp; rfl)); intro gb336 hg w9 hbox hb; have n0_ := za HO_5 hb; have n1_ := zb HB hb; have n2_ := Aside0.mk (hbox); have n3_ := Aside0.mk ((by rw [hg]; exact (below_size (zB HB)) : w.heap.size ≤ gb336)); have n4_ := Aside0.mk ((by rw [hg]; exact (below_size (zB HB)) : w.heap.size ≤ gb336)); clear HO_5; clear HB; have HO_5 := n0_; have HB := n1_; have BK336 := n2_; have GW336 := n3_; have GE336 := n4_; clear n0_ n1_ n2_ n3_ n4_; clear hb hbox hg; have hcz10_0 : w9.cell? ⟨gb336, 0, none⟩ = some (.int .i64 0) := (blk_cell BK336.out 0).trans rfl; have hcz10_1 : w9.cell? ⟨gb336, 1, none⟩ = some (.int .i64 0) := (blk_cell BK336.out 1).trans rfl; have hcz10_2 : w9.cell? ⟨gb336, 2, none⟩ = some (.bool false) := (blk_cell BK336.out 2).trans rfl; have hfz10_0 := blk_frozen BK336.out 0; have hfz10_1 := blk_frozen BK336.out 1; have hfz10_2 := blk_frozen BK336.out 2)); go_upto_region 7 with (first | ((with_reducible refine gate_dst (N := 7) rfl ?_); refine box_event ?hg (N := 7) ?hd (cs := #[.int .i64 0, .int .i64 0, .bool false]) (t := 35) ?hr ?_; (case hd => rfl); (case hg => rfl); (case hr => first | (go_simp; done) | (go_simp; rfl)); intro gb336 hg w9 hbox hb; have n0_ := za HO_5 hb; have n1_ := zb HB hb; have n2_ := Aside0.mk (hbox); have n3_ := Aside0.mk ((by rw [hg]; exact (below_size (zB HB)) : w.heap.size ≤ gb336)); have n4_ := Aside0.mk ((by rw [hg]; exact (below_size (zB HB)) : w.heap.size ≤ gb336)); clear HO_5; clear HB; have HO_5 := n0_; have HB := n1_; have BK336 := n2_; have GW336 := n3_; have GE336 := n4_; clear n0_ n1_ n2_ n3_ n4_; clear hb hbox hg; have hcz10_0 : w9.cell? ⟨gb336, 0, none⟩ = some (.int .i64 0) := (blk_cell BK336.out 0).trans rfl; have hcz10_1 : w9.cell? ⟨gb336, 1, none⟩ = some (.int .i64 0) := (blk_cell BK336.out 1).trans rfl; have hcz10_2 : w9.cell? ⟨gb336, 2, none⟩ = some (.bool false) := (blk_cell BK336.out 2).trans rfl; have hfz10_0 := blk_frozen BK336.out 0; have hfz10_1 := blk_frozen BK336.out 1; have hfz10_2 := blk_frozen BK336.out 2)))
    (try simp only [Act.put, qg, qh, qi])
    go_cut [24] (fun v24 wc => ∃ (kq : Nat) (x24_7 : Bool), v24 = .bool x24_7 ∧ Aside0 (darningref4_Fits.j1 kq l0 a1 x5_1 x12_1 l0 (l0.length : Int) x12_1 x24_7 ((rd_T35 l0 x12_1).f0) ((rd_T35 l0 x12_1).f1) ((rd_T35 l0 x12_1).f2) = some r) ∧ Aside0 (kq ≤ k1) ∧ Aside0 (Kd.R (Kd.int .i64) 3 wc w.heap.size (fun _ => True) u5 x5_1) ∧ Aside0 (wc.heap[gb336]? = some (.cells #[.int .i64 ((rd_T35 l0 x12_1).f0), .int .i64 ((rd_T35 l0 x12_1).f1), .bool ((rd_T35 l0 x12_1).f2)] 35 (0, 0))) ∧ Aside0 (Below w.heap.size w wc))
    case first =>
     have H := HC8.out
     clear HC8
     first | (generalize hbq11 : (rd_T35 l0 x12_1).f2 = bq11 at *; replace hbq11 := hbq11.symm) | (obtain ⟨bq11, hbq11⟩ : ∃ b_ : Bool, b_ = ((rd_T35 l0 x12_1).f2) := ⟨_, rfl⟩)
     replace H : (if bq11 = true then (darningref4_Fits.j1 k1 l0 a1 x5_1 x12_1 l0 (l0.length : Int) x12_1 true ((rd_T35 l0 x12_1).f0) ((rd_T35 l0 x12_1).f1) bq11) else (darningref4_Fits.j1 k1 l0 a1 x5_1 x12_1 l0 (l0.length : Int) x12_1 (decide (((rd_T35 l0 x12_1).f1) < a1)) ((rd_T35 l0 x12_1).f0) ((rd_T35 l0 x12_1).f1) bq11)) = some r := by first | exact H | (rw [← hbq11] at H; exact H)
     have Nbq11 := Aside0.mk hbq11
     clear hbq11
     (try rw [← Nbq11.out])
     by_cases c12 : bq11 = true
     ·
      subst c12
      have H1 : (darningref4_Fits.j1 k1 l0 a1 x5_1 x12_1 l0 (l0.length : Int) x12_1 true ((rd_T35 l0 x12_1).f0) ((rd_T35 l0 x12_1).f1) true) = some r := by rw [if_pos rfl] at H; exact H
      clear H
      have H := H1
      clear H1
      have H' := Aside0.mk H
      clear H
      have hcz13_0 : w9.cell? ⟨gb336, 0, none⟩ = some (.int .i64 0) := (blk_cell BK336.out 0).trans rfl
      have hcz13_1 : w9.cell? ⟨gb336, 1, none⟩ = some (.int .i64 0) := (blk_cell BK336.out 1).trans rfl
      have hcz13_2 : w9.cell? ⟨gb336, 2, none⟩ = some (.bool false) := (blk_cell BK336.out 2).trans rfl
      have hfz13_0 := blk_frozen BK336.out 0
      have hfz13_1 := blk_frozen BK336.out 1
      have hfz13_2 := blk_frozen BK336.out 2
      go_wp2
      repeat (go_quiet (fail); try go_wp2)
      go_meet
      case rel => (try simp only [← Nbq11.out]); exact ⟨_, (true), (by first | rfl | (simp; done) | (simp [*]; done)), H', ⟨by have := HK1.out; first | omega | exact Nat.le_refl _⟩, ⟨by (with_reducible repeat (first | apply qa | apply qb | apply qc)); exact Kd.R_mono (Kd.R_far (p := ⟨gb336, 2, none⟩) (Kd.R_far (p := ⟨gb336, 1, none⟩) (Kd.R_far (p := ⟨gb336, 0, none⟩) (Kd.R_types HO_5.out BK336.out (by decide)) (fun _ hk => hk.2) (.int .i64 ((rd_T35 l0 x12_1).f0))) (fun _ hk => hk.2) (.int .i64 ((rd_T35 l0 x12_1).f1))) (fun _ hk => hk.2) (.bool true)) (fun _ hk => trivial)⟩, ⟨by (with_reducible repeat (first | refine blk_drewN ?_ _ | refine blk_drew ?_ | refine blk_alloc ?_ _)); refine blk_put (cs := #[.int .i64 ((rd_T35 l0 x12_1).f0), .int .i64 ((rd_T35 l0 x12_1).f1), .bool false]) ?_ 2 _ rfl; (with_reducible repeat (first | refine blk_drewN ?_ _ | refine blk_drew ?_ | refine blk_alloc ?_ _)); refine blk_put (cs := #[.int .i64 ((rd_T35 l0 x12_1).f0), .int .i64 0, .bool false]) ?_ 1 _ rfl; (with_reducible repeat (first | refine blk_drewN ?_ _ | refine blk_drew ?_ | refine blk_alloc ?_ _)); refine blk_put (cs := #[.int .i64 0, .int .i64 0, .bool false]) ?_ 0 _ rfl; (with_reducible repeat (first | refine blk_drewN ?_ _ | refine blk_drew ?_ | refine blk_alloc ?_ _)); exact BK336.out⟩, ⟨by repeat (first | (with_reducible first | exact HB.out | apply qd | apply qe | apply qf | refine below_set ?_ GE336.out) | exact HB.out)⟩⟩
     replace c12 := Bool.eq_false_iff.mpr c12
     subst c12
     have H1 : (darningref4_Fits.j1 k1 l0 a1 x5_1 x12_1 l0 (l0.length : Int) x12_1 (decide (((rd_T35 l0 x12_1).f1) < a1)) ((rd_T35 l0 x12_1).f0) ((rd_T35 l0 x12_1).f1) false) = some r := by rw [if_neg (show ¬ (false = true) by decide)] at H; exact H
     clear H
     have H := H1
     clear H1
     have H' := Aside0.mk H
     clear H
     have hcz14_0 : w9.cell? ⟨gb336, 0, none⟩ = some (.int .i64 0) := (blk_cell BK336.out 0).trans rfl
     have hcz14_1 : w9.cell? ⟨gb336, 1, none⟩ = some (.int .i64 0) := (blk_cell BK336.out 1).trans rfl
     have hcz14_2 : w9.cell? ⟨gb336, 2, none⟩ = some (.bool false) := (blk_cell BK336.out 2).trans rfl
     have hfz14_0 := blk_frozen BK336.out 0
     have hfz14_1 := blk_frozen BK336.out 1
     have hfz14_2 := blk_frozen BK336.out 2
     go_wp2
     repeat (go_quiet (fail); try go_wp2)
     go_meet
     case rel => (try simp only [← Nbq11.out]); exact ⟨_, (decide (((rd_T35 l0 x12_1).f1) < a1)), (by first | rfl | (simp; done) | (simp [*]; done)), H', ⟨by have := HK1.out; first | omega | exact Nat.le_refl _⟩, ⟨by (with_reducible repeat (first | apply qa | apply qb | apply qc)); exact Kd.R_mono (Kd.R_far (p := ⟨gb336, 2, none⟩) (Kd.R_far (p := ⟨gb336, 1, none⟩) (Kd.R_far (p := ⟨gb336, 0, none⟩) (Kd.R_types HO_5.out BK336.out (by decide)) (fun _ hk => hk.2) (.int .i64 ((rd_T35 l0 x12_1).f0))) (fun _ hk => hk.2) (.int .i64 ((rd_T35 l0 x12_1).f1))) (fun _ hk => hk.2) (.bool false)) (fun _ hk => trivial)⟩, ⟨by (with_reducible repeat (first | refine blk_drewN ?_ _ | refine blk_drew ?_ | refine blk_alloc ?_ _)); refine blk_put (cs := #[.int .i64 ((rd_T35 l0 x12_1).f0), .int .i64 ((rd_T35 l0 x12_1).f1), .bool false]) ?_ 2 _ rfl; (with_reducible repeat (first | refine blk_drewN ?_ _ | refine blk_drew ?_ | refine blk_alloc ?_ _)); refine blk_put (cs := #[.int .i64 ((rd_T35 l0 x12_1).f0), .int .i64 0, .bool false]) ?_ 1 _ rfl; (with_reducible repeat (first | refine blk_drewN ?_ _ | refine blk_drew ?_ | refine blk_alloc ?_ _)); refine blk_put (cs := #[.int .i64 0, .int .i64 0, .bool false]) ?_ 0 _ rfl; (with_reducible repeat (first | refine blk_drewN ?_ _ | refine blk_drew ?_ | refine blk_alloc ?_ _)); exact BK336.out⟩, ⟨by repeat (first | (with_reducible first | exact HB.out | apply qd | apply qe | apply qf | refine below_set ?_ GE336.out) | exact HB.out)⟩⟩
    clear HC8
    try clear c1
    try clear q1
    try clear p2
    try clear c3
    try clear c3b0
    try clear p3
    try clear q3
    try clear hx3
    try clear c4
    try clear c4b0
    try clear c6
    try clear c6b0
    try clear c7
    try clear c7b0
    try clear c8
    try clear q11
    try clear c12
    try clear hcz10_0
    try clear hcz10_1
    try clear hcz10_2
    try clear hcz13_0
    try clear hcz13_1
    try clear hcz13_2
    try clear hcz14_0
    try clear hcz14_1
    try clear hcz14_2
    try clear hfz10_0
    try clear hfz10_1
    try clear hfz10_2
    try clear hfz13_0
    try clear hfz13_1
    try clear hfz13_2
    try clear hfz14_0
    try clear hfz14_1
    try clear hfz14_2
    try clear hx335_0
    try clear hx335_1
    try clear hx335_2
    try clear p2
    try clear p335
    try clear q335
    obtain ⟨kq, x24_7, rfl, HA, HJ7, HO_5, BK336, HB⟩ := hcut
    cases kq with
    | zero => exact absurd HA.out (by simp [darningref4_Fits.j1])
    | succ kj7 =>
     have H := HA.out
     clear HA
     simp only [darningref4_Fits.j1] at H
     by_cases c15 : x24_7 = true
     ·
      subst c15
      have H1 : (darningref4_Fits.j5 kj7 l0 a1 x5_1 l0 (l0.length : Int) x12_1) = some r := by rw [if_pos rfl] at H; exact H
      clear H
      have H := H1
      clear H1
      have H' := Aside0.mk H
      clear H
      go_wp2
      repeat (go_quiet (fail); try go_wp2)
      go_meet
      case rel => exact ⟨_, (x5_1), H', ⟨by have := HK1.out; have := HJ7.out; first | omega | exact Nat.le_refl _⟩, ⟨zr HO_5⟩, ⟨by repeat (first | (with_reducible first | exact HB.out | apply qd | apply qe | apply qf | refine below_set ?_ GE336.out) | exact HB.out)⟩⟩
     replace c15 := Bool.eq_false_iff.mpr c15
     subst c15
     have H1 : (if (x5_1.length : Int) > 0 then (if 0 < (x5_1.length : Int) then (if 0 ≤ (rd x5_1 0) then (if (rd x5_1 0) < (l0.length : Int) then (darningref4_Fits.j2 kj7 l0 a1 x5_1 x12_1 l0 (l0.length : Int) x12_1 (decide (((rd_T35 l0 (rd x5_1 0)).f1) > ((rd_T35 l0 x12_1).f1))) ((rd_T35 l0 x12_1).f0) ((rd_T35 l0 x12_1).f1) ((rd_T35 l0 x12_1).f2)) else (none)) else (none)) else (none)) else (darningref4_Fits.j2 kj7 l0 a1 x5_1 x12_1 l0 (l0.length : Int) x12_1 false ((rd_T35 l0 x12_1).f0) ((rd_T35 l0 x12_1).f1) ((rd_T35 l0 x12_1).f2))) = some r := by rw [if_neg (show ¬ (false = true) by decide)] at H; exact H
     clear H
     have H := H1
     clear H1
     have HC16 := Aside0.mk H
     clear H
     go_upto_region 8 with (fail)
     repeat (go_quiet (fail); go_upto_region 8 with (fail))
     go_cut [39] (fun v39 wc => ∃ (kq : Nat) (x39_15 : Bool), v39 = .bool x39_15 ∧ Aside0 (darningref4_Fits.j2 kq l0 a1 x5_1 x12_1 l0 (l0.length : Int) x12_1 x39_15 ((rd_T35 l0 x12_1).f0) ((rd_T35 l0 x12_1).f1) ((rd_T35 l0 x12_1).f2) = some r) ∧ Aside0 (kq ≤ kj7) ∧ Aside0 (Kd.R (Kd.int .i64) 3 wc w.heap.size (fun _ => True) u5 x5_1) ∧ Aside0 (wc.heap[gb336]? = some (.cells #[.int .i64 ((rd_T35 l0 x12_1).f0), .int .i64 ((rd_T35 l0 x12_1).f1), .bool ((rd_T35 l0 x12_1).f2)] 35 (0, 0))) ∧ Aside0 (Below w.heap.size w wc))
     case first =>
      have H := HC16.out
      clear HC16
      by_cases c17 : (x5_1.length : Int) > 0
      rotate_left
      ·
       rw [if_neg c17] at H
       have c17b0 : decide (0 < (x5_1.length : Int)) = false := decide_eq_false c17
       have c17b1 : decide (0 < x5_1.length) = false := decide_eq_false (by omega)
       clear c17
       (first | rw [c17b0] | (simp only [i64_w, i32_w]; rw [c17b0]) | skip)
       have H' := Aside0.mk H
       clear H
       obtain ⟨Ao23, co23, eo23⟩ := Kd.R_slice HO_5.out
       subst eo23
       go_wp2
       repeat (go_quiet (fail); try go_wp2)
       go_meet
       case rel => exact ⟨_, (false), (by first | rfl | (simp; done) | (simp [*]; done)), H', ⟨by have := HK1.out; have := HJ7.out; first | omega | exact Nat.le_refl _⟩, ⟨zr HO_5⟩, ⟨by (with_reducible repeat (first | refine blk_drewN ?_ _ | refine blk_drew ?_ | refine blk_alloc ?_ _)); exact BK336.out⟩, ⟨by repeat (first | (with_reducible first | exact HB.out | apply qd | apply qe | apply qf | refine below_set ?_ GE336.out) | exact HB.out)⟩⟩
      rw [if_pos c17] at H
      have c17b0 : decide (0 < (x5_1.length : Int)) = true := decide_eq_true c17
      have c17b1 : decide (0 < x5_1.length) = true := decide_eq_true (by omega)
      clear c17
      (first | rw [c17b0] | (simp only [i64_w, i32_w]; rw [c17b0]) | skip)
      by_cases c18 : 0 < (x5_1.length : Int)
      rotate_left
      ·
       rw [if_neg c18] at H
       exact absurd H (by simp)
      rw [if_pos c18] at H
      have c18b0 : decide (0 < (x5_1.length : Int)) = true := decide_eq_true c18
      have c18b1 : decide (0 < x5_1.length) = true := decide_eq_true (by omega)
      clear c18
      by_cases c19 : 0 ≤ (rd x5_1 0)
      rotate_left
      ·
       rw [if_neg c19] at H
       exact absurd H (by simp)
      rw [if_pos c19] at H
      have c19b0 : decide (0 ≤ (rd x5_1 0)) = true := decide_eq_true c19
      clear c19
      by_cases c20 : (rd x5_1 0) < (l0.length : Int)
      rotate_left
      ·
       rw [if_neg c20] at H
       exact absurd H (by simp)
      rw [if_pos c20] at H
      have c20b0 : decide ((rd x5_1 0) < (l0.length : Int)) = true := decide_eq_true c20
      clear c20
      have H' := Aside0.mk H
      clear H
      obtain ⟨Ao21, co21, eo21⟩ := Kd.R_slice HO_5.out
      subst eo21
      have p337 : 0 ≤ (0 : Int) := (by omega)
      have q337 : 0 < (x5_1.length : Int) := zu
      obtain ⟨ad337, e337, hx337_0⟩ := Kd.at_int (Kd.R_reads' HO_5.out).2.2 0 p337 q337
      cases e337
      have qi337 : (0 < x5_1.length) = True := eq_true (by omega)
      (try rw [show ((0 : Int)).toNat = 0 from rfl] at hx337_0)
      (try rw [Addr.add_zero'] at hx337_0)
      replace p337 := eq_true p337
      replace q337 := eq_true q337
      have p338 : 0 ≤ ((rd x5_1 0) : Int) := zu
      have q338 : (rd x5_1 0) < (l0.length : Int) := zu
      obtain ⟨ad338, e338, hx338_0, hx338_1, hx338_2⟩ := at_T35 HR0.out (rd x5_1 0) p338 q338
      obtain rfl : ad335 = ad338 := (by injection e338)
      replace hx338_0 := zw HB hx338_0
      replace hx338_1 := zw HB hx338_1
      replace hx338_2 := zw HB hx338_2
      replace p338 := eq_true p338
      replace q338 := eq_true q338
      have hcz22_0 : wc.cell? ⟨gb336, 0, none⟩ = some (.int .i64 ((rd_T35 l0 x12_1).f0)) := (blk_cell BK336.out 0).trans rfl
      have hcz22_1 : wc.cell? ⟨gb336, 1, none⟩ = some (.int .i64 ((rd_T35 l0 x12_1).f1)) := (blk_cell BK336.out 1).trans rfl
      have hcz22_2 : wc.cell? ⟨gb336, 2, none⟩ = some (.bool ((rd_T35 l0 x12_1).f2)) := (blk_cell BK336.out 2).trans rfl
      have hfz22_0 := blk_frozen BK336.out 0
      have hfz22_1 := blk_frozen BK336.out 1
      have hfz22_2 := blk_frozen BK336.out 2
      go_wp2
      repeat (go_quiet (fail); try go_wp2)
      go_meet
      case rel => exact ⟨_, (decide (((rd_T35 l0 (rd x5_1 0)).f1) > ((rd_T35 l0 x12_1).f1))), (by first | rfl | (simp; done) | (simp [*]; done)), H', ⟨by have := HK1.out; have := HJ7.out; first | omega | exact Nat.le_refl _⟩, ⟨zr HO_5⟩, ⟨by (with_reducible repeat (first | refine blk_drewN ?_ _ | refine blk_drew ?_ | refine blk_alloc ?_ _)); exact BK336.out⟩, ⟨by repeat (first | (with_reducible first | exact HB.out | apply qd | apply qe | apply qf | refine below_set ?_ GE336.out) | exact HB.out)⟩⟩
     clear HC16
     try clear c1
     try clear q1
     try clear c2
     try clear p2
     try clear c3
     try clear c3b0
     try clear p3
     try clear q3
     try clear hx3
     try clear qi3
     try clear c4
     try clear c4b0
     try clear c6
     try clear c6b0
     try clear c7
     try clear c7b0
     try clear c8
     try clear q11
     try clear c12
     try clear c15
     try clear c17
     try clear c17b0
     try clear c17b1
     try clear c18
     try clear c18b0
     try clear c18b1
     try clear c19
     try clear c19b0
     try clear c20
     try clear c20b0
     try clear hcz10_0
     try clear hcz10_1
     try clear hcz10_2
     try clear hcz13_0
     try clear hcz13_1
     try clear hcz13_2
     try clear hcz14_0
     try clear hcz14_1
     try clear hcz14_2
     try clear hcz22_0
     try clear hcz22_1
     try clear hcz22_2
     try clear hfz10_0
     try clear hfz10_1
     try clear hfz10_2
     try clear hfz13_0
     try clear hfz13_1
     try clear hfz13_2
     try clear hfz14_0
     try clear hfz14_1
     try clear hfz14_2
     try clear hfz22_0
     try clear hfz22_1
     try clear hfz22_2
     try clear hx335_0
     try clear hx335_1
     try clear hx335_2
     try clear hx337_0
     try clear hx338_0
     try clear hx338_1
     try clear hx338_2
     try clear p2
     try clear p3
     try clear p335
     try clear p337
     try clear p338
     try clear q1
     try clear q11
     try clear q3
     try clear q335
     try clear q337
     try clear q338
     obtain ⟨kq, x39_15, rfl, HA, HJ15, HO_5, BK336, HB⟩ := hcut
     cases kq with
     | zero => exact absurd HA.out (by simp [darningref4_Fits.j2])
     | succ kj15 =>
      have H := HA.out
      clear HA
      simp only [darningref4_Fits.j2] at H
      have HC24 := Aside0.mk H
      clear H
      go_upto_if 39 with (fail)
      repeat (go_quiet (fail); go_upto_if 39 with (fail))
      go_cut [5] (fun v5 wc => ∃ (kq : Nat) (x5_23 : List Int), Aside0 (darningref4_Fits.j3 kq l0 a1 x5_23 x12_1 l0 (l0.length : Int) x12_1 ((rd_T35 l0 x12_1).f0) ((rd_T35 l0 x12_1).f1) ((rd_T35 l0 x12_1).f2) = some r) ∧ Aside0 (kq ≤ kj15) ∧ Aside0 (Kd.R (Kd.int .i64) 3 wc w.heap.size (fun _ => True) v5 x5_23) ∧ Aside0 (wc.heap[gb336]? = some (.cells #[.int .i64 ((rd_T35 l0 x12_1).f0), .int .i64 ((rd_T35 l0 x12_1).f1), .bool ((rd_T35 l0 x12_1).f2)] 35 (0, 0))) ∧ Aside0 (Below w.heap.size w wc))
      case first =>
       have H := HC24.out
       clear HC24
       by_cases c25 : x39_15 = true
       ·
        subst c25
        have H1 : (darningref4_Fits.j3 kj15 l0 a1 ([] : List Int) x12_1 l0 (l0.length : Int) x12_1 ((rd_T35 l0 x12_1).f0) ((rd_T35 l0 x12_1).f1) ((rd_T35 l0 x12_1).f2)) = some r := by rw [if_pos rfl] at H; exact H
        clear H
        have H := H1
        clear H1
        have H' := Aside0.mk H
        clear H
        go_wp2
        repeat (go_quiet (fail); try go_wp2)
        go_meet
        case rel => exact ⟨_, (([] : List Int)), H', ⟨by have := HK1.out; have := HJ7.out; have := HJ15.out; first | omega | exact Nat.le_refl _⟩, ⟨by first | exact Kd.R_nil _ _ _ _ _ | exact Kd.N_nil _ _ _ _ _ | exact Kd.V_nil _ _ _ _ _ | exact Kd.Q_nil _ _ _ _ _ | exact Kd.S_nil _ _ _ _ _⟩, ⟨by (with_reducible repeat (first | refine blk_drewN ?_ _ | refine blk_drew ?_ | refine blk_alloc ?_ _)); exact BK336.out⟩, ⟨by repeat (first | (with_reducible first | exact HB.out | apply qd | apply qe | apply qf | refine below_set ?_ GE336.out) | exact HB.out)⟩⟩
       replace c25 := Bool.eq_false_iff.mpr c25
       subst c25
       have H1 : (darningref4_Fits.j3 kj15 l0 a1 x5_1 x12_1 l0 (l0.length : Int) x12_1 ((rd_T35 l0 x12_1).f0) ((rd_T35 l0 x12_1).f1) ((rd_T35 l0 x12_1).f2)) = some r := by rw [if_neg (show ¬ (false = true) by decide)] at H; exact H
       clear H
       have H := H1
       clear H1
       have H' := Aside0.mk H
       clear H
       go_wp2
       repeat (go_quiet (fail); try go_wp2)
       go_meet
       case rel => exact ⟨_, (x5_1), H', ⟨by have := HK1.out; have := HJ7.out; have := HJ15.out; first | omega | exact Nat.le_refl _⟩, ⟨zr HO_5⟩, ⟨by (with_reducible repeat (first | refine blk_drewN ?_ _ | refine blk_drew ?_ | refine blk_alloc ?_ _)); exact BK336.out⟩, ⟨by repeat (first | (with_reducible first | exact HB.out | apply qd | apply qe | apply qf | refine below_set ?_ GE336.out) | exact HB.out)⟩⟩
      clear HC24
      try clear c1
      try clear q1
      try clear c2
      try clear p2
      try clear c3
      try clear c3b0
      try clear p3
      try clear q3
      try clear hx3
      try clear qi3
      try clear c4
      try clear c4b0
      try clear c6
      try clear c6b0
      try clear c7
      try clear c7b0
      try clear c8
      try clear q11
      try clear c12
      try clear c15
      try clear c17
      try clear c17b0
      try clear c17b1
      try clear c18
      try clear c18b0
      try clear c18b1
      try clear c19
      try clear c19b0
      try clear c20
      try clear c20b0
      try clear c25
      try clear hcz10_0
      try clear hcz10_1
      try clear hcz10_2
      try clear hcz13_0
      try clear hcz13_1
      try clear hcz13_2
      try clear hcz14_0
      try clear hcz14_1
      try clear hcz14_2
      try clear hcz22_0
      try clear hcz22_1
      try clear hcz22_2
      try clear hfz10_0
      try clear hfz10_1
      try clear hfz10_2
      try clear hfz13_0
      try clear hfz13_1
      try clear hfz13_2
      try clear hfz14_0
      try clear hfz14_1
      try clear hfz14_2
      try clear hfz22_0
      try clear hfz22_1
      try clear hfz22_2
      try clear hx335_0
      try clear hx335_1
      try clear hx335_2
      try clear hx337_0
      try clear hx338_0
      try clear hx338_1
      try clear hx338_2
      try clear p2
      try clear p3
      try clear p335
      try clear p337
      try clear p338
      try clear q1
      try clear q11
      try clear q3
      try clear q335
      try clear q337
      try clear q338
      obtain ⟨kq, x5_23, HA, HJ23, HO_5, BK336, HB⟩ := hcut
      cases kq with
      | zero => exact absurd HA.out (by simp [darningref4_Fits.j3])
      | succ kj23 =>
       have H := HA.out
       clear HA
       simp only [darningref4_Fits.j3] at H
       have HC26 := Aside0.mk H
       clear H
       go_upto_region 10 with (fail)
       repeat (go_quiet (fail); go_upto_region 10 with (fail))
       go_cut [54] (fun v54 wc => ∃ (kq : Nat) (x54_25 : Bool), v54 = .bool x54_25 ∧ Aside0 (darningref4_Fits.j4 kq l0 a1 x5_23 x12_1 l0 (l0.length : Int) x12_1 x54_25 = some r) ∧ Aside0 (kq ≤ kj23) ∧ Aside0 (Kd.R (Kd.int .i64) 3 wc w.heap.size (fun _ => True) u5 x5_23) ∧ Aside0 (wc.heap[gb336]? = some (.cells #[.int .i64 ((rd_T35 l0 x12_1).f0), .int .i64 ((rd_T35 l0 x12_1).f1), .bool ((rd_T35 l0 x12_1).f2)] 35 (0, 0))) ∧ Aside0 (Below w.heap.size w wc))
       case first =>
        have H := HC26.out
        clear HC26
        by_cases c27 : (x5_23.length : Int) = 0
        ·
         rw [if_pos c27] at H
         have c27b0 : ((x5_23.length : Int) == 0) = true := beq_iff_eq.mpr c27
         have c27b1 : ((x5_23.length : Int) != 0) = false := bne_eq_false_iff_eq.mpr c27
         clear c27
         (first | rw [c27b0] | (simp only [i64_w, i32_w]; rw [c27b0]) | skip)
         have H' := Aside0.mk H
         clear H
         obtain ⟨Ao28, co28, eo28⟩ := Kd.R_slice HO_5.out
         subst eo28
         go_wp2
         repeat (go_quiet (fail); try go_wp2)
         go_meet
         case rel => exact ⟨_, (true), (by first | rfl | (simp; done) | (simp [*]; done)), H', ⟨by have := HK1.out; have := HJ7.out; have := HJ15.out; have := HJ23.out; first | omega | exact Nat.le_refl _⟩, ⟨zr HO_5⟩, ⟨by (with_reducible repeat (first | refine blk_drewN ?_ _ | refine blk_drew ?_ | refine blk_alloc ?_ _)); exact BK336.out⟩, ⟨by repeat (first | (with_reducible first | exact HB.out | apply qd | apply qe | apply qf | refine below_set ?_ GE336.out) | exact HB.out)⟩⟩
        rw [if_neg c27] at H
        have c27b0 : ((x5_23.length : Int) == 0) = false := beq_eq_false_iff_ne.mpr c27
        have c27b1 : ((x5_23.length : Int) != 0) = true := bne_iff_ne.mpr c27
        have c27b2 : ¬ (x5_23 = []) := fun h_ => c27 (by rw [h_]; rfl)
        (first | rw [c27b0] | (simp only [i64_w, i32_w]; rw [c27b0]) | skip)
        by_cases c29 : 0 < (x5_23.length : Int)
        rotate_left
        ·
         rw [if_neg c29] at H
         exact absurd H (by simp)
        rw [if_pos c29] at H
        have c29b0 : decide (0 < (x5_23.length : Int)) = true := decide_eq_true c29
        have c29b1 : decide (0 < x5_23.length) = true := decide_eq_true (by omega)
        clear c29
        by_cases c30 : 0 ≤ (rd x5_23 0)
        rotate_left
        ·
         rw [if_neg c30] at H
         exact absurd H (by simp)
        rw [if_pos c30] at H
        have c30b0 : decide (0 ≤ (rd x5_23 0)) = true := decide_eq_true c30
        clear c30
        by_cases c31 : (rd x5_23 0) < (l0.length : Int)
        rotate_left
        ·
         rw [if_neg c31] at H
         exact absurd H (by simp)
        rw [if_pos c31] at H
        have c31b0 : decide ((rd x5_23 0) < (l0.length : Int)) = true := decide_eq_true c31
        clear c31
        have H' := Aside0.mk H
        clear H
        obtain ⟨Ao32, co32, eo32⟩ := Kd.R_slice HO_5.out
        subst eo32
        have p339 : 0 ≤ (0 : Int) := (by omega)
        have q339 : 0 < (x5_23.length : Int) := zu
        obtain ⟨ad339, e339, hx339_0⟩ := Kd.at_int (Kd.R_reads' HO_5.out).2.2 0 p339 q339
        cases e339
        have qi339 : (0 < x5_23.length) = True := eq_true (by omega)
        (try rw [show ((0 : Int)).toNat = 0 from rfl] at hx339_0)
        (try rw [Addr.add_zero'] at hx339_0)
        replace p339 := eq_true p339
        replace q339 := eq_true q339
        have p340 : 0 ≤ ((rd x5_23 0) : Int) := zu
        have q340 : (rd x5_23 0) < (l0.length : Int) := zu
        obtain ⟨ad340, e340, hx340_0, hx340_1, hx340_2⟩ := at_T35 HR0.out (rd x5_23 0) p340 q340
        obtain rfl : ad335 = ad340 := (by injection e340)
        replace hx340_0 := zw HB hx340_0
        replace hx340_1 := zw HB hx340_1
        replace hx340_2 := zw HB hx340_2
        replace p340 := eq_true p340
        replace q340 := eq_true q340
        have hcz33_0 : wc.cell? ⟨gb336, 0, none⟩ = some (.int .i64 ((rd_T35 l0 x12_1).f0)) := (blk_cell BK336.out 0).trans rfl
        have hcz33_1 : wc.cell? ⟨gb336, 1, none⟩ = some (.int .i64 ((rd_T35 l0 x12_1).f1)) := (blk_cell BK336.out 1).trans rfl
        have hcz33_2 : wc.cell? ⟨gb336, 2, none⟩ = some (.bool ((rd_T35 l0 x12_1).f2)) := (blk_cell BK336.out 2).trans rfl
        have hfz33_0 := blk_frozen BK336.out 0
        have hfz33_1 := blk_frozen BK336.out 1
        have hfz33_2 := blk_frozen BK336.out 2
        go_wp2
        repeat (go_quiet (fail); try go_wp2)
        go_meet
        case rel => exact ⟨_, ((((rd_T35 l0 (rd x5_23 0)).f1) == ((rd_T35 l0 x12_1).f1))), (by first | rfl | (simp; done) | (simp [*]; done)), H', ⟨by have := HK1.out; have := HJ7.out; have := HJ15.out; have := HJ23.out; first | omega | exact Nat.le_refl _⟩, ⟨zr HO_5⟩, ⟨by (with_reducible repeat (first | refine blk_drewN ?_ _ | refine blk_drew ?_ | refine blk_alloc ?_ _)); exact BK336.out⟩, ⟨by repeat (first | (with_reducible first | exact HB.out | apply qd | apply qe | apply qf | refine below_set ?_ GE336.out) | exact HB.out)⟩⟩
       clear HC26
       try clear c1
       try clear q1
       try clear c2
       try clear p2
       try clear c3
       try clear c3b0
       try clear p3
       try clear q3
       try clear hx3
       try clear qi3
       try clear c4
       try clear c4b0
       try clear c6
       try clear c6b0
       try clear c7
       try clear c7b0
       try clear c8
       try clear q11
       try clear c12
       try clear c15
       try clear c17
       try clear c17b0
       try clear c17b1
       try clear c18
       try clear c18b0
       try clear c18b1
       try clear c19
       try clear c19b0
       try clear c20
       try clear c20b0
       try clear c25
       try clear c27
       try clear c27b0
       try clear c27b1
       try clear c27b2
       try clear c29
       try clear c29b0
       try clear c29b1
       try clear c30
       try clear c30b0
       try clear c31
       try clear c31b0
       try clear p33
       try clear q33
       try clear hx33
       try clear qi33
       try clear hcz10_0
       try clear hcz10_1
       try clear hcz10_2
       try clear hcz13_0
       try clear hcz13_1
       try clear hcz13_2
       try clear hcz14_0
       try clear hcz14_1
       try clear hcz14_2
       try clear hcz22_0
       try clear hcz22_1
       try clear hcz22_2
       try clear hcz33_0
       try clear hcz33_1
       try clear hcz33_2
       try clear hfz10_0
       try clear hfz10_1
       try clear hfz10_2
       try clear hfz13_0
       try clear hfz13_1
       try clear hfz13_2
       try clear hfz14_0
       try clear hfz14_1
       try clear hfz14_2
       try clear hfz22_0
       try clear hfz22_1
       try clear hfz22_2
       try clear hfz33_0
       try clear hfz33_1
       try clear hfz33_2
       try clear hx335_0
       try clear hx335_1
       try clear hx335_2
       try clear hx337_0
       try clear hx338_0
       try clear hx338_1
       try clear hx338_2
       try clear hx339_0
       try clear hx340_0
       try clear hx340_1
       try clear hx340_2
       try clear p2
       try clear p3
       try clear p335
       try clear p337
       try clear p338
       try clear p339
       try clear p340
       try clear q1
       try clear q11
       try clear q3
       try clear q335
       try clear q337
       try clear q338
       try clear q339
       try clear q340
       obtain ⟨kq, x54_25, rfl, HA, HJ25, HO_5, BK336, HB⟩ := hcut
       cases kq with
       | zero => exact absurd HA.out (by simp [darningref4_Fits.j4])
       | succ kj25 =>
        have H := HA.out
        clear HA
        simp only [darningref4_Fits.j4] at H
        by_cases c34 : x54_25 = true
        rotate_left
        ·
         replace c34 := Bool.eq_false_iff.mpr c34
         subst c34
         have H1 : (darningref4_Fits.j5 kj25 l0 a1 x5_23 l0 (l0.length : Int) x12_1) = some r := by rw [if_neg (show ¬ (false = true) by decide)] at H; exact H
         clear H
         have H := H1
         clear H1
         have H' := Aside0.mk H
         clear H
         go_wp2
         repeat (go_quiet (fail); try go_wp2)
         go_meet
         case rel => exact ⟨_, (x5_23), H', ⟨by have := HK1.out; have := HJ7.out; have := HJ15.out; have := HJ23.out; have := HJ25.out; first | omega | exact Nat.le_refl _⟩, ⟨zr HO_5⟩, ⟨by repeat (first | (with_reducible first | exact HB.out | apply qd | apply qe | apply qf | refine below_set ?_ GE336.out) | exact HB.out)⟩⟩
        subst c34
        have H1 : (if x5_23.length < 17592186044416 then (darningref4_Fits.j5 kj25 l0 a1 (x5_23 ++ [x12_1]) l0 (l0.length : Int) x12_1) else (none)) = some r := by rw [if_pos rfl] at H; exact H
        clear H
        have H := H1
        clear H1
        by_cases c35 : x5_23.length < 17592186044416
        rotate_left
        ·
         rw [if_neg c35] at H
         exact absurd H (by simp)
        rw [if_pos c35] at H
        have LMc35 := Aside0.mk c35
        clear c35
        obtain ⟨y341, hy341⟩ : ∃ y_ : List Int, y_ = (x5_23 ++ [x12_1]) := ⟨_, rfl⟩
        replace H : (darningref4_Fits.j5 kj25 l0 a1 y341 l0 (l0.length : Int) x12_1) = some r := by first | (rw [hy341]; with_reducible exact H) | (have H2_ := (Option.bind_some _ _).symm.trans H; rw [hy341]; with_reducible exact H2_) | (have H2_ := (Option.bind_some _ _).symm.trans H; with_reducible exact H2_) | with_reducible exact H | (rw [hy341]; exact H) | exact H
        have Ny341 := Aside0.mk hy341
        clear hy341
        have H' := Aside0.mk H
        clear H
        go_wp2_with (first | ((with_reducible refine gate_builtin (b := .append) (xs := #[.tmp 55, .tmp 57]) rfl ?_); at_builtin; refine Kd.R_append (Kd.int .i64) (w0 := w) w.heap.size rfl (.tmp 55) (.tmp 57) 38 3 (.int .i64 0) 8 rfl Try.underlying38 info3 rfl (by decide) (by omega) u5 x5_23 x12_1 [.int .i64 x12_1] (fun _ => True) (fun _ => False) rfl rfl ?aP (fun _ hk => hk.elim) ?aF ?aO ?aB ?aS ?aL ?_; (case aP => exact rfl); (case aB => exact (by repeat (first | (with_reducible first | exact HB.out | apply qd | apply qe | apply qf | refine below_set ?_ GE336.out) | exact HB.out))); (case aF => exact (fun _ _ => trivial)); (case aO => exact (zr HO_5)); (case aS => exact (below_size (by repeat (first | (with_reducible first | exact HB.out | apply qd | apply qe | apply qf | refine below_set ?_ GE336.out) | exact HB.out)))); (case aL => have := LMc35.out; omega); intro v342 w36 ho hb hg hat; rw [← Ny341.out] at ho; have n0_ := Aside0.mk (blk_grown (g := gb336) (o := .cells #[.int .i64 ((rd_T35 l0 x12_1).f0), .int .i64 ((rd_T35 l0 x12_1).f1), .bool ((rd_T35 l0 x12_1).f2)] 35 (0, 0)) (by (with_reducible repeat (first | refine blk_drewN ?_ _ | refine blk_drew ?_ | refine blk_alloc ?_ _)); exact BK336.out) hg (Kd.R_ne HO_5.out BK336.out (by decide))); have n1_ := Aside0.mk (hb); have n2_ := Aside0.mk (ho); clear BK336; clear HB; clear HO_5; have BK336 := n0_; have HB := n1_; have HO343 := n2_; clear n0_ n1_ n2_; clear ho hb hg hat))
        repeat (go_quiet (first | ((with_reducible refine gate_builtin (b := .append) (xs := #[.tmp 55, .tmp 57]) rfl ?_); at_builtin; refine Kd.R_append (Kd.int .i64) (w0 := w) w.heap.size rfl (.tmp 55) (.tmp 57) 38 3 (.int .i64 0) 8 rfl Try.underlying38 info3 rfl (by decide) (by omega) u5 x5_23 x12_1 [.int .i64 x12_1] (fun _ => True) (fun _ => False) rfl rfl ?aP (fun _ hk => hk.elim) ?aF ?aO ?aB ?aS ?aL ?_; (case aP => exact rfl); (case aB => exact (by repeat (first | (with_reducible first | exact HB.out | apply qd | apply qe | apply qf | refine below_set ?_ GE336.out) | exact HB.out))); (case aF => exact (fun _ _ => trivial)); (case aO => exact (zr HO_5)); (case aS => exact (below_size (by repeat (first | (with_reducible first | exact HB.out | apply qd | apply qe | apply qf | refine below_set ?_ GE336.out) | exact HB.out)))); (case aL => have := LMc35.out; omega); intro v342 w36 ho hb hg hat; rw [← Ny341.out] at ho; have n0_ := Aside0.mk (blk_grown (g := gb336) (o := .cells #[.int .i64 ((rd_T35 l0 x12_1).f0), .int .i64 ((rd_T35 l0 x12_1).f1), .bool ((rd_T35 l0 x12_1).f2)] 35 (0, 0)) (by (with_reducible repeat (first | refine blk_drewN ?_ _ | refine blk_drew ?_ | refine blk_alloc ?_ _)); exact BK336.out) hg (Kd.R_ne HO_5.out BK336.out (by decide))); have n1_ := Aside0.mk (hb); have n2_ := Aside0.mk (ho); clear BK336; clear HB; clear HO_5; have BK336 := n0_; have HB := n1_; have HO343 := n2_; clear n0_ n1_ n2_; clear ho hb hg hat)); try go_wp2_with (first | ((with_reducible refine gate_builtin (b := .append) (xs := #[.tmp 55, .tmp 57]) rfl ?_); at_builtin; refine Kd.R_append (Kd.int .i64) (w0 := w) w.heap.size rfl (.tmp 55) (.tmp 57) 38 3 (.int .i64 0) 8 rfl Try.underlying38 info3 rfl (by decide) (by omega) u5 x5_23 x12_1 [.int .i64 x12_1] (fun _ => True) (fun _ => False) rfl rfl ?aP (fun _ hk => hk.elim) ?aF ?aO ?aB ?aS ?aL ?_; (case aP => exact rfl); (case aB => exact (by repeat (first | (with_reducible first | exact HB.out | apply qd | apply qe | apply qf | refine below_set ?_ GE336.out) | exact HB.out))); (case aF => exact (fun _ _ => trivial)); (case aO => exact (zr HO_5)); (case aS => exact (below_size (by repeat (first | (with_reducible first | exact HB.out | apply qd | apply qe | apply qf | refine below_set ?_ GE336.out) | exact HB.out)))); (case aL => have := LMc35.out; omega); intro v342 w36 ho hb hg hat; rw [← Ny341.out] at ho; have n0_ := Aside0.mk (blk_grown (g := gb336) (o := .cells #[.int .i64 ((rd_T35 l0 x12_1).f0), .int .i64 ((rd_T35 l0 x12_1).f1), .bool ((rd_T35 l0 x12_1).f2)] 35 (0, 0)) (by (with_reducible repeat (first | refine blk_drewN ?_ _ | refine blk_drew ?_ | refine blk_alloc ?_ _)); exact BK336.out) hg (Kd.R_ne HO_5.out BK336.out (by decide))); have n1_ := Aside0.mk (hb); have n2_ := Aside0.mk (ho); clear BK336; clear HB; clear HO_5; have BK336 := n0_; have HB := n1_; have HO343 := n2_; clear n0_ n1_ n2_; clear ho hb hg hat)))
        go_meet
        case rel => exact ⟨_, (y341), H', ⟨by have := HK1.out; have := HJ7.out; have := HJ15.out; have := HJ23.out; have := HJ25.out; first | omega | exact Nat.le_refl _⟩, ⟨zr HO343⟩, ⟨by repeat (first | (with_reducible first | exact HB.out | apply qd | apply qe | apply qf | refine below_set ?_ GE336.out) | exact HB.out)⟩⟩
   clear HC5
   try clear c1
   try clear q1
   try clear c2
   try clear p2
   try clear c3
   try clear c3b0
   try clear p3
   try clear q3
   try clear hx3
   try clear qi3
   try clear c4
   try clear c4b0
   try clear c6
   try clear c6b0
   try clear c7
   try clear c7b0
   try clear c8
   try clear q11
   try clear c12
   try clear c15
   try clear c17
   try clear c17b0
   try clear c17b1
   try clear c18
   try clear c18b0
   try clear c18b1
   try clear c19
   try clear c19b0
   try clear c20
   try clear c20b0
   try clear c25
   try clear c27
   try clear c27b0
   try clear c27b1
   try clear c27b2
   try clear c29
   try clear c29b0
   try clear c29b1
   try clear c30
   try clear c30b0
   try clear c31
   try clear c31b0
   try clear p33
   try clear q33
   try clear hx33
   try clear qi33
   try clear c34
   try clear p34
   try clear q34
   try clear hx34
   try clear c35
   try clear hcz10_0
   try clear hcz10_1
   try clear hcz10_2
   try clear hcz13_0
   try clear hcz13_1
   try clear hcz13_2
   try clear hcz14_0
   try clear hcz14_1
   try clear hcz14_2
   try clear hcz22_0
   try clear hcz22_1
   try clear hcz22_2
   try clear hcz33_0
   try clear hcz33_1
   try clear hcz33_2
   try clear hfz10_0
   try clear hfz10_1
   try clear hfz10_2
   try clear hfz13_0
   try clear hfz13_1
   try clear hfz13_2
   try clear hfz14_0
   try clear hfz14_1
   try clear hfz14_2
   try clear hfz22_0
   try clear hfz22_1
   try clear hfz22_2
   try clear hfz33_0
   try clear hfz33_1
   try clear hfz33_2
   try clear hx335_0
   try clear hx335_1
   try clear hx335_2
   try clear hx337_0
   try clear hx338_0
   try clear hx338_1
   try clear hx338_2
   try clear hx339_0
   try clear hx340_0
   try clear hx340_1
   try clear hx340_2
   try clear p2
   try clear p3
   try clear p33
   try clear p335
   try clear p337
   try clear p338
   try clear p339
   try clear p340
   try clear q1
   try clear q11
   try clear q3
   try clear q33
   try clear q335
   try clear q337
   try clear q338
   try clear q339
   try clear q340
   obtain ⟨kq, x5_4, HA, HJ4, HO_5, HB⟩ := hcut
   cases kq with
   | zero => exact absurd HA.out (by simp [darningref4_Fits.j5])
   | succ kj4 =>
    have H := HA.out
    clear HA
    simp only [darningref4_Fits.j5] at H
    have H' := Aside0.mk H
    clear H
    go_wp2
    repeat (go_quiet (fail); try go_wp2)
    go_roundg kj4
    case measure => have := HK1.out; have := HJ4.out; omega
    case rel => exact ⟨(x5_4), (wrap64 (x12_1 + 1)), (by first | rfl | (simp; done) | (simp [*]; done)), H', ⟨by have := HK1.out; have := HJ4.out; omega⟩, ⟨zr HO_5⟩, ⟨zB HB⟩⟩

end Go.Proofs.Ytglekonhdjploaa.XImageForms
