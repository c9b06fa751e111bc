-- Laid by this session's own printer (wip/xprint.py): each Go function that the law reaches as a plain Lean function, and that the call comes to it.
import Derived.Test.YtglekonhdjploaaXImageKeepsx0
import Derived.Test.YtglekonhdjploaaXImageKeepsx1
import Derived.Test.YtglekonhdjploaaXImageKeepsx6
import Derived.Test.YtglekonhdjploaaXImageKeepsx9
namespace Go.Proofs.Ytglekonhdjploaa.XImageKeeps
open Go.RowKit Go.Proofs.YtglekonhdjploaaW.PrintWords Go.Proofs.YtglekonhdjploaaW.PrintLast Go.Proofs.YtglekonhdjploaaW.PrintMore
attribute [local go_sem] max2_int min2_int max_two min_two max_three min_three max_four min_four   -- for this text's walks alone
set_option linter.unusedVariables false
set_option linter.unusedSimpArgs false

/-! ### merge_around: function 57 -/
mutual
def merge_around.j0 : Nat → List (S35) → Int → Bool → Option (Int × Int × Bool)
 | 0, _, _, _ => none
 | k + 1, x0, x1, x29 => if x29 = true then (some (0, 0, false)) else (if x1 > 0 then (if 0 ≤ (wrap64 (x1 - 1)) then (if (wrap64 (x1 - 1)) < (x0.length : Int) then (merge_around.j1 k x0 x1 (wrap64 (x1 + 1)) (!((rd_T35 x0 (wrap64 (x1 - 1))).f2))) else (none)) else (none)) else (merge_around.j1 k x0 x1 (wrap64 (x1 + 1)) false))
def merge_around.j1 : Nat → List (S35) → Int → Int → Bool → Option (Int × Int × Bool)
 | 0, _, _, _, _ => none
 | k + 1, x0, x4, x5, x43 => if x43 = true then (if x5 < (x0.length : Int) then (if 0 ≤ x5 then (if ((rd_T35 x0 x5).f2 = true) then (some (wrap64 (x4 - 1), x5, true)) else (some (wrap64 (x4 - 1), wrap64 (x5 + 1), true))) else (none)) else (some (wrap64 (x4 - 1), x5, true))) else (if x5 < (x0.length : Int) then (if 0 ≤ x5 then (if ((rd_T35 x0 x5).f2 = true) then (some (x4, x5, true)) else (some (x4, wrap64 (x5 + 1), true))) else (none)) else (some (x4, x5, true)))
end
def merge_around.f (k : Nat) (l0 : List (S35)) (a1 : Int) : Option (Int × Int × Bool) := (merge_words.f k l0).bind fun t260 => ((chain_May.f k l0 t260).bind fun t261 => (if t261 = true then (if a1 < 0 then (merge_around.j0 k l0 a1 true) else (if a1 ≥ (l0.length : Int) then (merge_around.j0 k l0 a1 true) else (if 0 ≤ a1 then (if a1 < (l0.length : Int) then (merge_around.j0 k l0 a1 (!((rd_T35 l0 a1).f2))) else (none)) else (none)))) else (merge_around.j0 k l0 a1 true)))
theorem merge_around.mono_l : ∀ k, (∀ y0 y1 y2, LeO (merge_around.j0 k y0 y1 y2) (merge_around.j0 (k + 1) y0 y1 y2)) ∧ (∀ y0 y1 y2 y3, LeO (merge_around.j1 k y0 y1 y2 y3) (merge_around.j1 (k + 1) y0 y1 y2 y3))
 | 0 => ⟨fun _ _ _ r h => by simp [merge_around.j0] at h, fun _ _ _ _ r h => by simp [merge_around.j1] at h⟩
 | k + 1 => by
  obtain ⟨ih0, ih1⟩ := merge_around.mono_l k
  refine ⟨?_, ?_⟩
  ·
   intro y0 y1 y2
   unfold merge_around.j0
   repeat' first
   | (with_reducible exact ih0 _ _ _)
   | (with_reducible exact ih1 _ _ _ _)
   | (with_reducible exact chain_May.mono _ _ _)
   | (with_reducible exact merge_words.mono _ _)
   | (with_reducible exact LeO.refl _)
   | (with_reducible exact LeO.none _)
   | (with_reducible refine LeO.ite ?_ ?_)
   | (with_reducible refine LeO.bind ?_ (fun _ => ?_))
   | exact ih0 _ _ _
   | exact ih1 _ _ _ _
   | exact chain_May.mono _ _ _
   | exact merge_words.mono _ _
   | exact LeO.none _
   | refine LeO.ite ?_ ?_
   | refine LeO.bind ?_ (fun _ => ?_)
  ·
   intro y0 y1 y2 y3
   unfold merge_around.j1
   repeat' first
   | (with_reducible exact ih0 _ _ _)
   | (with_reducible exact ih1 _ _ _ _)
   | (with_reducible exact chain_May.mono _ _ _)
   | (with_reducible exact merge_words.mono _ _)
   | (with_reducible exact LeO.refl _)
   | (with_reducible exact LeO.none _)
   | (with_reducible refine LeO.ite ?_ ?_)
   | (with_reducible refine LeO.bind ?_ (fun _ => ?_))
   | exact ih0 _ _ _
   | exact ih1 _ _ _ _
   | exact chain_May.mono _ _ _
   | exact merge_words.mono _ _
   | exact LeO.none _
   | refine LeO.ite ?_ ?_
   | refine LeO.bind ?_ (fun _ => ?_)
theorem merge_around.mono : ∀ a0 a1 k, LeO (merge_around.f k a0 a1) (merge_around.f (k + 1) a0 a1) := by
 intro a0 a1 k
 obtain ⟨ih0, ih1⟩ := merge_around.mono_l k
 unfold merge_around.f
 repeat' first
   | (with_reducible exact ih0 _ _ _)
   | (with_reducible exact ih1 _ _ _ _)
   | (with_reducible exact chain_May.mono _ _ _)
   | (with_reducible exact merge_words.mono _ _)
   | (with_reducible exact LeO.refl _)
   | (with_reducible exact LeO.none _)
   | (with_reducible refine LeO.ite ?_ ?_)
   | (with_reducible refine LeO.bind ?_ (fun _ => ?_))
   | exact ih0 _ _ _
   | exact ih1 _ _ _ _
   | exact chain_May.mono _ _ _
   | exact merge_words.mono _ _
   | exact LeO.none _
   | refine LeO.ite ?_ ?_
   | refine LeO.bind ?_ (fun _ => ?_)
set_option maxHeartbeats 8000000 in
set_option maxRecDepth 100000 in
theorem merge_around.calls (k : Nat) (A0 : Option Addr) (c0 : Nat) (l0 : List (S35)) (a1 : Int) (r1 : Int) (r2 : Int) (r3 : Bool) (w : World) (hr0 : Kd.C k35 w A0 l0.length l0) (hc0 : l0.length ≤ c0) (h : merge_around.f k l0 a1 = some (r1, r2, r3)) :
  Calls Try.prog 57 #[.slice A0 l0.length c0, .int .i64 a1] w fun e w' => e = .returned (.tuple #[.int .i64 r1, .int .i64 r2, .bool r3]) ∧ Below w.heap.size w w' := by
 have HR0 := Aside0.mk hr0
 have HC0 := Aside0.mk hc0
 clear hr0 hc0
 have HB := Aside0.mk (Below.refl w.heap.size w)
 have H : ((merge_words.f k l0).bind fun t260 => ((chain_May.f k l0 t260).bind fun t261 => (if t261 = true then (if a1 < 0 then (merge_around.j0 k l0 a1 true) else (if a1 ≥ (l0.length : Int) then (merge_around.j0 k l0 a1 true) else (if 0 ≤ a1 then (if a1 < (l0.length : Int) then (merge_around.j0 k l0 a1 (!((rd_T35 l0 a1).f2))) else (none)) else (none)))) else (merge_around.j0 k l0 a1 true)))) = some (r1, r2, r3) := h
 clear h
 have HC3 := Aside0.mk H
 clear H
 go_enter Try.func57, Try.ntmps57
 go_upto_region 1 with (fail)
 go_cut [29] (fun v29 wc => ∃ (kq : Nat) (x29_2 : Bool), v29 = .bool x29_2 ∧ Aside0 (merge_around.j0 kq l0 a1 x29_2 = some (r1, r2, r3)) ∧ Aside0 (kq ≤ k) ∧ Aside0 (Below w.heap.size w wc))
 case first =>
  have H := HC3.out
  clear HC3
  replace H := Option.bind_eq_some_iff.mp H
  obtain ⟨t260, A40, H⟩ := H
  replace H : ((chain_May.f k l0 t260).bind fun t261 => (if t261 = true then (if a1 < 0 then (merge_around.j0 k l0 a1 true) else (if a1 ≥ (l0.length : Int) then (merge_around.j0 k l0 a1 true) else (if 0 ≤ a1 then (if a1 < (l0.length : Int) then (merge_around.j0 k l0 a1 (!((rd_T35 l0 a1).f2))) else (none)) else (none)))) else (merge_around.j0 k l0 a1 true))) = some (r1, r2, r3) := H
  have A4 := Aside0.mk A40
  clear A40
  replace H := Option.bind_eq_some_iff.mp H
  obtain ⟨t261, A50, H⟩ := H
  replace H : (if t261 = true then (if a1 < 0 then (merge_around.j0 k l0 a1 true) else (if a1 ≥ (l0.length : Int) then (merge_around.j0 k l0 a1 true) else (if 0 ≤ a1 then (if a1 < (l0.length : Int) then (merge_around.j0 k l0 a1 (!((rd_T35 l0 a1).f2))) else (none)) else (none)))) else (merge_around.j0 k l0 a1 true)) = some (r1, r2, r3) := H
  have A5 := Aside0.mk A50
  clear A50
  by_cases c6 : t261 = true
  rotate_left
  ·
   replace c6 := Bool.eq_false_iff.mpr c6
   subst c6
   have H1 : (merge_around.j0 k l0 a1 true) = some (r1, r2, r3) := by rw [if_neg (show ¬ (false = true) by decide)] at H; exact H
   clear H
   have H := H1
   clear H1
   have H' := Aside0.mk H
   clear H
   go_wp2_with (first | ((with_reducible refine gate_callee (f := 58) rfl ?_); refine goesL_ (some 9) rfl rfl Try.func58 (by kernel_rfl) rfl #[.slice A0 l0.length c0] rfl (by (try simp only [List.map_toArray, List.map_cons, List.map_nil]); first | done | rfl | (simp only [List.length_drop, List.length_take]; rfl)) ?_; (with_reducible refine (merge_words.calls k _ _ l0 t260 _ ?side1 ?side2 A4.out).mono ?_); (case side1 => repeat (first | exact (Kd.C_below HR0.out HB.out) | (with_reducible refine Kd.C_alloc ?_ _) | (with_reducible refine Kd.C_drewN ?_ _) | (with_reducible refine Kd.C_drew ?_))); (case side2 => exact HC0.out); rintro e w17 ⟨rfl, hb⟩; refine ⟨_, rfl, ?_⟩; have n0_ := Aside0.mk (below_step (by repeat (first | (with_reducible first | exact HB.out | apply below_alloc | apply pw_below_drewN | apply below_drew1) | exact HB.out)) hb); clear HB; have HB := n0_; clear n0_; (try clear hb); (try clear hb2); (try clear hk); (try clear hi)) | ((with_reducible refine gate_callee (f := 36) rfl ?_); refine goesL_ (some 10) rfl rfl Try.func36 (by kernel_rfl) rfl #[.slice A0 l0.length c0, .int .i64 t260] rfl (by (try simp only [List.map_toArray, List.map_cons, List.map_nil]); first | done | rfl | (simp only [List.length_drop, List.length_take]; rfl)) ?_; (with_reducible refine (chain_May.calls k _ _ l0 t260 false _ ?side1 ?side2 A5.out).mono ?_); (case side1 => repeat (first | exact (Kd.C_below HR0.out HB.out) | (with_reducible refine Kd.C_alloc ?_ _) | (with_reducible refine Kd.C_drewN ?_ _) | (with_reducible refine Kd.C_drew ?_))); (case side2 => exact HC0.out); rintro e w18 ⟨rfl, hb⟩; refine ⟨_, rfl, ?_⟩; have n0_ := Aside0.mk (below_step (by repeat (first | (with_reducible first | exact HB.out | apply below_alloc | apply pw_below_drewN | apply below_drew1) | exact HB.out)) hb); clear HB; have HB := n0_; clear n0_; (try clear hb); (try clear hb2); (try clear hk); (try clear hi)))
   go_meet
   case rel => exact ⟨_, (true), (by first | rfl | (simp; done) | (simp [*]; done)), H', ⟨by first | omega | exact Nat.le_refl _⟩, ⟨by repeat (first | (with_reducible first | exact HB.out | apply below_alloc | apply pw_below_drewN | apply below_drew1) | exact HB.out)⟩⟩
  subst c6
  have H1 : (if a1 < 0 then (merge_around.j0 k l0 a1 true) else (if a1 ≥ (l0.length : Int) then (merge_around.j0 k l0 a1 true) else (if 0 ≤ a1 then (if a1 < (l0.length : Int) then (merge_around.j0 k l0 a1 (!((rd_T35 l0 a1).f2))) else (none)) else (none)))) = some (r1, r2, r3) := by rw [if_pos rfl] at H; exact H
  clear H
  have H := H1
  clear H1
  by_cases c7 : a1 < 0
  ·
   rw [if_pos c7] at H
   have c7b0 : decide (a1 < 0) = true := decide_eq_true c7
   clear c7
   (first | rw [c7b0] | (simp only [i64_w, i32_w]; rw [c7b0]) | skip)
   have H' := Aside0.mk H
   clear H
   go_wp2_with (first | ((with_reducible refine gate_callee (f := 58) rfl ?_); refine goesL_ (some 9) rfl rfl Try.func58 (by kernel_rfl) rfl #[.slice A0 l0.length c0] rfl (by (try simp only [List.map_toArray, List.map_cons, List.map_nil]); first | done | rfl | (simp only [List.length_drop, List.length_take]; rfl)) ?_; (with_reducible refine (merge_words.calls k _ _ l0 t260 _ ?side1 ?side2 A4.out).mono ?_); (case side1 => repeat (first | exact (Kd.C_below HR0.out HB.out) | (with_reducible refine Kd.C_alloc ?_ _) | (with_reducible refine Kd.C_drewN ?_ _) | (with_reducible refine Kd.C_drew ?_))); (case side2 => exact HC0.out); rintro e w8 ⟨rfl, hb⟩; refine ⟨_, rfl, ?_⟩; have n0_ := Aside0.mk (below_step (by repeat (first | (with_reducible first | exact HB.out | apply below_alloc | apply pw_below_drewN | apply below_drew1) | exact HB.out)) hb); clear HB; have HB := n0_; clear n0_; (try clear hb); (try clear hb2); (try clear hk); (try clear hi)) | ((with_reducible refine gate_callee (f := 36) rfl ?_); refine goesL_ (some 10) rfl rfl Try.func36 (by kernel_rfl) rfl #[.slice A0 l0.length c0, .int .i64 t260] rfl (by (try simp only [List.map_toArray, List.map_cons, List.map_nil]); first | done | rfl | (simp only [List.length_drop, List.length_take]; rfl)) ?_; (with_reducible refine (chain_May.calls k _ _ l0 t260 true _ ?side1 ?side2 A5.out).mono ?_); (case side1 => repeat (first | exact (Kd.C_below HR0.out HB.out) | (with_reducible refine Kd.C_alloc ?_ _) | (with_reducible refine Kd.C_drewN ?_ _) | (with_reducible refine Kd.C_drew ?_))); (case side2 => exact HC0.out); rintro e w9 ⟨rfl, hb⟩; refine ⟨_, rfl, ?_⟩; have n0_ := Aside0.mk (below_step (by repeat (first | (with_reducible first | exact HB.out | apply below_alloc | apply pw_below_drewN | apply below_drew1) | exact HB.out)) hb); clear HB; have HB := n0_; clear n0_; (try clear hb); (try clear hb2); (try clear hk); (try clear hi)))
   go_meet
   case rel => exact ⟨_, (true), (by first | rfl | (simp; done) | (simp [*]; done)), H', ⟨by first | omega | exact Nat.le_refl _⟩, ⟨by repeat (first | (with_reducible first | exact HB.out | apply below_alloc | apply pw_below_drewN | apply below_drew1) | exact HB.out)⟩⟩
  rw [if_neg c7] at H
  have c7b0 : decide (a1 < 0) = false := decide_eq_false c7
  clear c7
  (first | rw [c7b0] | (simp only [i64_w, i32_w]; rw [c7b0]) | skip)
  by_cases c10 : a1 ≥ (l0.length : Int)
  ·
   rw [if_pos c10] at H
   have c10b0 : decide ((l0.length : Int) ≤ a1) = true := decide_eq_true c10
   clear c10
   have H' := Aside0.mk H
   clear H
   go_wp2_with (first | ((with_reducible refine gate_callee (f := 58) rfl ?_); refine goesL_ (some 9) rfl rfl Try.func58 (by kernel_rfl) rfl #[.slice A0 l0.length c0] rfl (by (try simp only [List.map_toArray, List.map_cons, List.map_nil]); first | done | rfl | (simp only [List.length_drop, List.length_take]; rfl)) ?_; (with_reducible refine (merge_words.calls k _ _ l0 t260 _ ?side1 ?side2 A4.out).mono ?_); (case side1 => repeat (first | exact (Kd.C_below HR0.out HB.out) | (with_reducible refine Kd.C_alloc ?_ _) | (with_reducible refine Kd.C_drewN ?_ _) | (with_reducible refine Kd.C_drew ?_))); (case side2 => exact HC0.out); rintro e w11 ⟨rfl, hb⟩; refine ⟨_, rfl, ?_⟩; have n0_ := Aside0.mk (below_step (by repeat (first | (with_reducible first | exact HB.out | apply below_alloc | apply pw_below_drewN | apply below_drew1) | exact HB.out)) hb); clear HB; have HB := n0_; clear n0_; (try clear hb); (try clear hb2); (try clear hk); (try clear hi)) | ((with_reducible refine gate_callee (f := 36) rfl ?_); refine goesL_ (some 10) rfl rfl Try.func36 (by kernel_rfl) rfl #[.slice A0 l0.length c0, .int .i64 t260] rfl (by (try simp only [List.map_toArray, List.map_cons, List.map_nil]); first | done | rfl | (simp only [List.length_drop, List.length_take]; rfl)) ?_; (with_reducible refine (chain_May.calls k _ _ l0 t260 true _ ?side1 ?side2 A5.out).mono ?_); (case side1 => repeat (first | exact (Kd.C_below HR0.out HB.out) | (with_reducible refine Kd.C_alloc ?_ _) | (with_reducible refine Kd.C_drewN ?_ _) | (with_reducible refine Kd.C_drew ?_))); (case side2 => exact HC0.out); rintro e w12 ⟨rfl, hb⟩; refine ⟨_, rfl, ?_⟩; have n0_ := Aside0.mk (below_step (by repeat (first | (with_reducible first | exact HB.out | apply below_alloc | apply pw_below_drewN | apply below_drew1) | exact HB.out)) hb); clear HB; have HB := n0_; clear n0_; (try clear hb); (try clear hb2); (try clear hk); (try clear hi)))
   go_meet
   case rel => exact ⟨_, (true), (by first | rfl | (simp; done) | (simp [*]; done)), H', ⟨by first | omega | exact Nat.le_refl _⟩, ⟨by repeat (first | (with_reducible first | exact HB.out | apply below_alloc | apply pw_below_drewN | apply below_drew1) | exact HB.out)⟩⟩
  rw [if_neg c10] at H
  have c10b0 : decide ((l0.length : Int) ≤ a1) = false := decide_eq_false c10
  clear c10
  by_cases c13 : 0 ≤ a1
  rotate_left
  ·
   rw [if_neg c13] at H
   exact absurd H (by simp)
  rw [if_pos c13] at H
  have c13b0 : decide (0 ≤ a1) = true := decide_eq_true c13
  clear c13
  by_cases c14 : a1 < (l0.length : Int)
  rotate_left
  ·
   rw [if_neg c14] at H
   exact absurd H (by simp)
  rw [if_pos c14] at H
  have c14b0 : decide (a1 < (l0.length : Int)) = true := decide_eq_true c14
  clear c14
  have H' := Aside0.mk H
  clear H
  go_wp2_with (first | ((with_reducible refine gate_callee (f := 58) rfl ?_); refine goesL_ (some 9) rfl rfl Try.func58 (by kernel_rfl) rfl #[.slice A0 l0.length c0] rfl (by (try simp only [List.map_toArray, List.map_cons, List.map_nil]); first | done | rfl | (simp only [List.length_drop, List.length_take]; rfl)) ?_; (with_reducible refine (merge_words.calls k _ _ l0 t260 _ ?side1 ?side2 A4.out).mono ?_); (case side1 => repeat (first | exact (Kd.C_below HR0.out HB.out) | (with_reducible refine Kd.C_alloc ?_ _) | (with_reducible refine Kd.C_drewN ?_ _) | (with_reducible refine Kd.C_drew ?_))); (case side2 => exact HC0.out); rintro e w15 ⟨rfl, hb⟩; refine ⟨_, rfl, ?_⟩; have n0_ := Aside0.mk (below_step (by repeat (first | (with_reducible first | exact HB.out | apply below_alloc | apply pw_below_drewN | apply below_drew1) | exact HB.out)) hb); clear HB; have HB := n0_; clear n0_; (try clear hb); (try clear hb2); (try clear hk); (try clear hi)) | ((with_reducible refine gate_callee (f := 36) rfl ?_); refine goesL_ (some 10) rfl rfl Try.func36 (by kernel_rfl) rfl #[.slice A0 l0.length c0, .int .i64 t260] rfl (by (try simp only [List.map_toArray, List.map_cons, List.map_nil]); first | done | rfl | (simp only [List.length_drop, List.length_take]; rfl)) ?_; (with_reducible refine (chain_May.calls k _ _ l0 t260 true _ ?side1 ?side2 A5.out).mono ?_); (case side1 => repeat (first | exact (Kd.C_below HR0.out HB.out) | (with_reducible refine Kd.C_alloc ?_ _) | (with_reducible refine Kd.C_drewN ?_ _) | (with_reducible refine Kd.C_drew ?_))); (case side2 => exact HC0.out); rintro e w16 ⟨rfl, hb⟩; refine ⟨_, rfl, ?_⟩; have n0_ := Aside0.mk (below_step (by repeat (first | (with_reducible first | exact HB.out | apply below_alloc | apply pw_below_drewN | apply below_drew1) | exact HB.out)) hb); clear HB; have HB := n0_; clear n0_; (try clear hb); (try clear hb2); (try clear hk); (try clear hi); have p262 : 0 ≤ (a1 : Int) := of_decide_eq_true (by first | (with_reducible assumption) | assumption); have q262 : a1 < (l0.length : Int) := of_decide_eq_true (by first | (with_reducible assumption) | assumption); obtain ⟨ad262, e262, hx262_0, hx262_1, hx262_2⟩ := at_T35 HR0.out a1 p262 q262; cases e262; replace hx262_0 := (HB.out.cell (World.block_lt_of_cell? w _ hx262_0)).trans hx262_0; replace hx262_1 := (HB.out.cell (World.block_lt_of_cell? w _ hx262_1)).trans hx262_1; replace hx262_2 := (HB.out.cell (World.block_lt_of_cell? w _ hx262_2)).trans hx262_2; replace p262 := eq_true p262; replace q262 := eq_true q262))
  go_meet
  case rel => exact ⟨_, (!((rd_T35 l0 a1).f2)), (by first | rfl | (simp; done) | (simp [*]; done)), H', ⟨by first | omega | exact Nat.le_refl _⟩, ⟨by repeat (first | (with_reducible first | exact HB.out | apply below_alloc | apply pw_below_drewN | apply below_drew1) | exact HB.out)⟩⟩
 clear HC3
 try clear c1
 try clear p2
 try clear q2
 try clear hx2
 try clear c3
 try clear c5
 try clear c6
 try clear c7
 try clear c7b0
 try clear c10
 try clear c10b0
 try clear c13
 try clear c13b0
 try clear c14
 try clear c14b0
 try clear hx262_0
 try clear hx262_1
 try clear hx262_2
 try clear p262
 try clear q262
 obtain ⟨kq, x29_2, rfl, HA, HJ2, HB⟩ := hcut
 cases kq with
 | zero => exact absurd HA.out (by simp [merge_around.j0])
 | succ kj2 =>
  have H := HA.out
  clear HA
  simp only [merge_around.j0] at H
  by_cases c19 : x29_2 = true
  ·
   subst c19
   have H1 : (some (0, 0, false)) = some (r1, r2, r3) := by rw [if_pos rfl] at H; exact H
   clear H
   have H := H1
   clear H1
   simp only [Option.some.injEq, Prod.mk.injEq] at H
   obtain ⟨rfl, rfl, rfl⟩ := H
   go_wp2
   go_ret3
   exact ⟨by first | rfl | (simp [errW_none, errW_some] <;> rfl) | (simp [*, errW_none, errW_some] <;> rfl), by repeat (first | (with_reducible first | exact HB.out | apply below_alloc | apply pw_below_drewN | apply below_drew1) | exact HB.out)⟩
  replace c19 := Bool.eq_false_iff.mpr c19
  subst c19
  have H1 : (if a1 > 0 then (if 0 ≤ (wrap64 (a1 - 1)) then (if (wrap64 (a1 - 1)) < (l0.length : Int) then (merge_around.j1 kj2 l0 a1 (wrap64 (a1 + 1)) (!((rd_T35 l0 (wrap64 (a1 - 1))).f2))) else (none)) else (none)) else (merge_around.j1 kj2 l0 a1 (wrap64 (a1 + 1)) false)) = some (r1, r2, r3) := by rw [if_neg (show ¬ (false = true) by decide)] at H; exact H
  clear H
  have H := H1
  clear H1
  have HC20 := Aside0.mk H
  clear H
  go_upto_region 4 with (fail)
  go_cut [43] (fun v43 wc => ∃ (kq : Nat) (x43_19 : Bool), v43 = .bool x43_19 ∧ Aside0 (merge_around.j1 kq l0 a1 (wrap64 (a1 + 1)) x43_19 = some (r1, r2, r3)) ∧ Aside0 (kq ≤ kj2) ∧ Aside0 (Below w.heap.size w wc))
  case first =>
   have H := HC20.out
   clear HC20
   by_cases c21 : a1 > 0
   rotate_left
   ·
    rw [if_neg c21] at H
    have c21b0 : decide (0 < a1) = false := decide_eq_false c21
    clear c21
    (first | rw [c21b0] | (simp only [i64_w, i32_w]; rw [c21b0]) | skip)
    have H' := Aside0.mk H
    clear H
    go_wp2
    go_meet
    case rel => exact ⟨_, (false), (by first | rfl | (simp; done) | (simp [*]; done)), (by first | exact H' | ((try rw [hji22]); exact H')), ⟨by have := HJ2.out; first | omega | exact Nat.le_refl _⟩, ⟨by repeat (first | (with_reducible first | exact HB.out | apply below_alloc | apply pw_below_drewN | apply below_drew1) | exact HB.out)⟩⟩
   rw [if_pos c21] at H
   have c21b0 : decide (0 < a1) = true := decide_eq_true c21
   clear c21
   (first | rw [c21b0] | (simp only [i64_w, i32_w]; rw [c21b0]) | skip)
   obtain ⟨ji22, hji22⟩ : ∃ j_ : Int, (wrap64 (a1 - 1)) = j_ := ⟨_, rfl⟩
   replace H : (if 0 ≤ (ji22) then (if (ji22) < (l0.length : Int) then (merge_around.j1 kj2 l0 a1 (wrap64 (a1 + 1)) (!((rd_T35 l0 (ji22)).f2))) else (none)) else (none)) = some (r1, r2, r3) := by first | (rw [hji22] at H; exact H) | (simp only [hji22] at H ⊢; exact H)
   have hji22w : (IntKind.i64.wrap (a1 - 1)) = ji22 := (i64_w _).trans hji22
   by_cases c23 : 0 ≤ (ji22)
   rotate_left
   ·
    rw [if_neg c23] at H
    exact absurd H (by simp)
   rw [if_pos c23] at H
   have c23b0 : decide (0 ≤ (ji22)) = true := decide_eq_true c23
   clear c23
   by_cases c24 : (ji22) < (l0.length : Int)
   rotate_left
   ·
    rw [if_neg c24] at H
    exact absurd H (by simp)
   rw [if_pos c24] at H
   have c24b0 : decide ((ji22) < (l0.length : Int)) = true := decide_eq_true c24
   clear c24
   have H' := Aside0.mk H
   clear H
   have p263 : 0 ≤ ((ji22) : Int) := of_decide_eq_true (by first | (with_reducible assumption) | assumption)
   have q263 : (ji22) < (l0.length : Int) := of_decide_eq_true (by first | (with_reducible assumption) | assumption)
   obtain ⟨ad263, e263, hx263_0, hx263_1, hx263_2⟩ := at_T35 HR0.out (ji22) p263 q263
   cases e263
   replace hx263_0 := (HB.out.cell (World.block_lt_of_cell? w _ hx263_0)).trans hx263_0
   replace hx263_1 := (HB.out.cell (World.block_lt_of_cell? w _ hx263_1)).trans hx263_1
   replace hx263_2 := (HB.out.cell (World.block_lt_of_cell? w _ hx263_2)).trans hx263_2
   replace p263 := eq_true p263
   replace q263 := eq_true q263
   go_wp2
   go_meet
   case rel => exact ⟨_, (!((rd_T35 l0 (ji22)).f2)), (by first | rfl | (simp; done) | (simp only [← hji22] <;> (first | rfl | simp)) | (simp [*]; done)), (by first | exact H' | (simp only [hji22]; exact H')), ⟨by have := HJ2.out; first | omega | exact Nat.le_refl _⟩, ⟨by repeat (first | (with_reducible first | exact HB.out | apply below_alloc | apply pw_below_drewN | apply below_drew1) | exact HB.out)⟩⟩
  clear HC20
  try clear c1
  try clear c2
  try clear p2
  try clear q2
  try clear hx2
  try clear c3
  try clear c5
  try clear c6
  try clear p6
  try clear c7
  try clear c7b0
  try clear c10
  try clear c10b0
  try clear c13
  try clear c13b0
  try clear c14
  try clear c14b0
  try clear c19
  try clear c21
  try clear c21b0
  try clear c23
  try clear c23b0
  try clear c24
  try clear c24b0
  try clear hx262_0
  try clear hx262_1
  try clear hx262_2
  try clear hx263_0
  try clear hx263_1
  try clear hx263_2
  try clear p2
  try clear p262
  try clear p263
  try clear q2
  try clear q262
  try clear q263
  obtain ⟨kq, x43_19, rfl, HA, HJ19, HB⟩ := hcut
  cases kq with
  | zero => exact absurd HA.out (by simp [merge_around.j1])
  | succ kj19 =>
   have H := HA.out
   clear HA
   simp only [merge_around.j1] at H
   by_cases c25 : x43_19 = true
   rotate_left
   ·
    replace c25 := Bool.eq_false_iff.mpr c25
    subst c25
    have H1 : (if (wrap64 (a1 + 1)) < (l0.length : Int) then (if 0 ≤ (wrap64 (a1 + 1)) then (if ((rd_T35 l0 (wrap64 (a1 + 1))).f2 = true) then (some (a1, (wrap64 (a1 + 1)), true)) else (some (a1, wrap64 ((wrap64 (a1 + 1)) + 1), true))) else (none)) else (some (a1, (wrap64 (a1 + 1)), true))) = some (r1, r2, r3) := by rw [if_neg (show ¬ (false = true) by decide)] at H; exact H
    clear H
    have H := H1
    clear H1
    by_cases c31 : (wrap64 (a1 + 1)) < (l0.length : Int)
    rotate_left
    ·
     rw [if_neg c31] at H
     have c31b0 : decide ((wrap64 (a1 + 1)) < (l0.length : Int)) = false := decide_eq_false c31
     clear c31
     simp only [Option.some.injEq, Prod.mk.injEq] at H
     obtain ⟨rfl, rfl, rfl⟩ := H
     go_wp2
     go_ret3
     exact ⟨by first | rfl | (simp [errW_none, errW_some] <;> rfl) | (simp [*, errW_none, errW_some] <;> rfl), by repeat (first | (with_reducible first | exact HB.out | apply below_alloc | apply pw_below_drewN | apply below_drew1) | exact HB.out)⟩
    rw [if_pos c31] at H
    have c31b0 : decide ((wrap64 (a1 + 1)) < (l0.length : Int)) = true := decide_eq_true c31
    clear c31
    obtain ⟨ji32, hji32⟩ : ∃ j_ : Int, (wrap64 (a1 + 1)) = j_ := ⟨_, rfl⟩
    replace H : (if 0 ≤ (ji32) then (if ((rd_T35 l0 (ji32)).f2 = true) then (some (a1, (ji32), true)) else (some (a1, wrap64 ((ji32) + 1), true))) else (none)) = some (r1, r2, r3) := by first | (rw [hji32] at H; exact H) | (simp only [hji32] at H ⊢; exact H)
    (try rw [hji32] at c31b0)
    have hji32w : (IntKind.i64.wrap (a1 + 1)) = ji32 := (i64_w _).trans hji32
    by_cases c33 : 0 ≤ (ji32)
    rotate_left
    ·
     rw [if_neg c33] at H
     exact absurd H (by simp)
    rw [if_pos c33] at H
    have c33b0 : decide (0 ≤ (ji32)) = true := decide_eq_true c33
    clear c33
    first | (generalize hbq34 : (rd_T35 l0 (ji32)).f2 = bq34 at *; replace hbq34 := hbq34.symm) | (obtain ⟨bq34, hbq34⟩ : ∃ b_ : Bool, b_ = ((rd_T35 l0 (ji32)).f2) := ⟨_, rfl⟩)
    replace H : (if (bq34 = true) then (some (a1, (ji32), true)) else (some (a1, wrap64 ((ji32) + 1), true))) = some (r1, r2, r3) := by first | exact H | (rw [← hbq34] at H; exact H)
    have Nbq34 := Aside0.mk hbq34
    clear hbq34
    (try rw [← Nbq34.out])
    by_cases c35 : (bq34 = true)
    ·
     subst c35
     have H1 : (some (a1, (ji32), true)) = some (r1, r2, r3) := by rw [if_pos rfl] at H; exact H
     clear H
     have H := H1
     clear H1
     simp only [Option.some.injEq, Prod.mk.injEq] at H
     obtain ⟨rfl, rfl, rfl⟩ := H
     have p265 : 0 ≤ ((ji32) : Int) := of_decide_eq_true (by first | (with_reducible assumption) | assumption)
     have q265 : (ji32) < (l0.length : Int) := of_decide_eq_true (by first | (with_reducible assumption) | assumption)
     obtain ⟨ad265, e265, hx265_0, hx265_1, hx265_2⟩ := at_T35 HR0.out (ji32) p265 q265
     (try rw [← Nbq34.out] at hx265_2)
     cases e265
     replace hx265_0 := (HB.out.cell (World.block_lt_of_cell? w _ hx265_0)).trans hx265_0
     replace hx265_1 := (HB.out.cell (World.block_lt_of_cell? w _ hx265_1)).trans hx265_1
     replace hx265_2 := (HB.out.cell (World.block_lt_of_cell? w _ hx265_2)).trans hx265_2
     replace p265 := eq_true p265
     replace q265 := eq_true q265
     go_wp2
     go_ret3
     exact ⟨by first | rfl | (simp [errW_none, errW_some] <;> rfl) | (simp only [← hji32]; first | rfl | (simp [errW_none, errW_some] <;> rfl)) | (simp [*, errW_none, errW_some] <;> rfl), by repeat (first | (with_reducible first | exact HB.out | apply below_alloc | apply pw_below_drewN | apply below_drew1) | exact HB.out)⟩
    replace c35 := Bool.eq_false_iff.mpr c35
    subst c35
    have H1 : (some (a1, wrap64 ((ji32) + 1), true)) = some (r1, r2, r3) := by rw [if_neg (show ¬ (false = true) by decide)] at H; exact H
    clear H
    have H := H1
    clear H1
    simp only [Option.some.injEq, Prod.mk.injEq] at H
    obtain ⟨rfl, rfl, rfl⟩ := H
    have p265 : 0 ≤ ((ji32) : Int) := of_decide_eq_true (by first | (with_reducible assumption) | assumption)
    have q265 : (ji32) < (l0.length : Int) := of_decide_eq_true (by first | (with_reducible assumption) | assumption)
    obtain ⟨ad265, e265, hx265_0, hx265_1, hx265_2⟩ := at_T35 HR0.out (ji32) p265 q265
    (try rw [← Nbq34.out] at hx265_2)
    cases e265
    replace hx265_0 := (HB.out.cell (World.block_lt_of_cell? w _ hx265_0)).trans hx265_0
    replace hx265_1 := (HB.out.cell (World.block_lt_of_cell? w _ hx265_1)).trans hx265_1
    replace hx265_2 := (HB.out.cell (World.block_lt_of_cell? w _ hx265_2)).trans hx265_2
    replace p265 := eq_true p265
    replace q265 := eq_true q265
    go_wp2
    go_ret3
    exact ⟨by first | rfl | (simp [errW_none, errW_some] <;> rfl) | (simp only [← hji32]; first | rfl | (simp [errW_none, errW_some] <;> rfl)) | (simp [*, errW_none, errW_some] <;> rfl), by repeat (first | (with_reducible first | exact HB.out | apply below_alloc | apply pw_below_drewN | apply below_drew1) | exact HB.out)⟩
   subst c25
   have H1 : (if (wrap64 (a1 + 1)) < (l0.length : Int) then (if 0 ≤ (wrap64 (a1 + 1)) then (if ((rd_T35 l0 (wrap64 (a1 + 1))).f2 = true) then (some (wrap64 (a1 - 1), (wrap64 (a1 + 1)), true)) else (some (wrap64 (a1 - 1), wrap64 ((wrap64 (a1 + 1)) + 1), true))) else (none)) else (some (wrap64 (a1 - 1), (wrap64 (a1 + 1)), true))) = some (r1, r2, r3) := by rw [if_pos rfl] at H; exact H
   clear H
   have H := H1
   clear H1
   by_cases c26 : (wrap64 (a1 + 1)) < (l0.length : Int)
   rotate_left
   ·
    rw [if_neg c26] at H
    have c26b0 : decide ((wrap64 (a1 + 1)) < (l0.length : Int)) = false := decide_eq_false c26
    clear c26
    simp only [Option.some.injEq, Prod.mk.injEq] at H
    obtain ⟨rfl, rfl, rfl⟩ := H
    go_wp2
    go_ret3
    exact ⟨by first | rfl | (simp [errW_none, errW_some] <;> rfl) | (simp [*, errW_none, errW_some] <;> rfl), by repeat (first | (with_reducible first | exact HB.out | apply below_alloc | apply pw_below_drewN | apply below_drew1) | exact HB.out)⟩
   rw [if_pos c26] at H
   have c26b0 : decide ((wrap64 (a1 + 1)) < (l0.length : Int)) = true := decide_eq_true c26
   clear c26
   obtain ⟨ji27, hji27⟩ : ∃ j_ : Int, (wrap64 (a1 + 1)) = j_ := ⟨_, rfl⟩
   replace H : (if 0 ≤ (ji27) then (if ((rd_T35 l0 (ji27)).f2 = true) then (some (wrap64 (a1 - 1), (ji27), true)) else (some (wrap64 (a1 - 1), wrap64 ((ji27) + 1), true))) else (none)) = some (r1, r2, r3) := by first | (rw [hji27] at H; exact H) | (simp only [hji27] at H ⊢; exact H)
   (try rw [hji27] at c26b0)
   have hji27w : (IntKind.i64.wrap (a1 + 1)) = ji27 := (i64_w _).trans hji27
   by_cases c28 : 0 ≤ (ji27)
   rotate_left
   ·
    rw [if_neg c28] at H
    exact absurd H (by simp)
   rw [if_pos c28] at H
   have c28b0 : decide (0 ≤ (ji27)) = true := decide_eq_true c28
   clear c28
   first | (generalize hbq29 : (rd_T35 l0 (ji27)).f2 = bq29 at *; replace hbq29 := hbq29.symm) | (obtain ⟨bq29, hbq29⟩ : ∃ b_ : Bool, b_ = ((rd_T35 l0 (ji27)).f2) := ⟨_, rfl⟩)
   replace H : (if (bq29 = true) then (some (wrap64 (a1 - 1), (ji27), true)) else (some (wrap64 (a1 - 1), wrap64 ((ji27) + 1), true))) = some (r1, r2, r3) := by first | exact H | (rw [← hbq29] at H; exact H)
   have Nbq29 := Aside0.mk hbq29
   clear hbq29
   (try rw [← Nbq29.out])
   by_cases c30 : (bq29 = true)
   ·
    subst c30
    have H1 : (some (wrap64 (a1 - 1), (ji27), true)) = some (r1, r2, r3) := by rw [if_pos rfl] at H; exact H
    clear H
    have H := H1
    clear H1
    simp only [Option.some.injEq, Prod.mk.injEq] at H
    obtain ⟨rfl, rfl, rfl⟩ := H
    have p264 : 0 ≤ ((ji27) : Int) := of_decide_eq_true (by first | (with_reducible assumption) | assumption)
    have q264 : (ji27) < (l0.length : Int) := of_decide_eq_true (by first | (with_reducible assumption) | assumption)
    obtain ⟨ad264, e264, hx264_0, hx264_1, hx264_2⟩ := at_T35 HR0.out (ji27) p264 q264
    (try rw [← Nbq29.out] at hx264_2)
    cases e264
    replace hx264_0 := (HB.out.cell (World.block_lt_of_cell? w _ hx264_0)).trans hx264_0
    replace hx264_1 := (HB.out.cell (World.block_lt_of_cell? w _ hx264_1)).trans hx264_1
    replace hx264_2 := (HB.out.cell (World.block_lt_of_cell? w _ hx264_2)).trans hx264_2
    replace p264 := eq_true p264
    replace q264 := eq_true q264
    go_wp2
    go_ret3
    exact ⟨by first | rfl | (simp [errW_none, errW_some] <;> rfl) | (simp only [← hji27]; first | rfl | (simp [errW_none, errW_some] <;> rfl)) | (simp [*, errW_none, errW_some] <;> rfl), by repeat (first | (with_reducible first | exact HB.out | apply below_alloc | apply pw_below_drewN | apply below_drew1) | exact HB.out)⟩
   replace c30 := Bool.eq_false_iff.mpr c30
   subst c30
   have H1 : (some (wrap64 (a1 - 1), wrap64 ((ji27) + 1), true)) = some (r1, r2, r3) := by rw [if_neg (show ¬ (false = true) by decide)] at H; exact H
   clear H
   have H := H1
   clear H1
   simp only [Option.some.injEq, Prod.mk.injEq] at H
   obtain ⟨rfl, rfl, rfl⟩ := H
   have p264 : 0 ≤ ((ji27) : Int) := of_decide_eq_true (by first | (with_reducible assumption) | assumption)
   have q264 : (ji27) < (l0.length : Int) := of_decide_eq_true (by first | (with_reducible assumption) | assumption)
   obtain ⟨ad264, e264, hx264_0, hx264_1, hx264_2⟩ := at_T35 HR0.out (ji27) p264 q264
   (try rw [← Nbq29.out] at hx264_2)
   cases e264
   replace hx264_0 := (HB.out.cell (World.block_lt_of_cell? w _ hx264_0)).trans hx264_0
   replace hx264_1 := (HB.out.cell (World.block_lt_of_cell? w _ hx264_1)).trans hx264_1
   replace hx264_2 := (HB.out.cell (World.block_lt_of_cell? w _ hx264_2)).trans hx264_2
   replace p264 := eq_true p264
   replace q264 := eq_true q264
   go_wp2
   go_ret3
   exact ⟨by first | rfl | (simp [errW_none, errW_some] <;> rfl) | (simp only [← hji27]; first | rfl | (simp [errW_none, errW_some] <;> rfl)) | (simp [*, errW_none, errW_some] <;> rfl), by repeat (first | (with_reducible first | exact HB.out | apply below_alloc | apply pw_below_drewN | apply below_drew1) | exact HB.out)⟩

/-! ### merge_Edit: function 18 -/
def merge_Edit.f (k : Nat) (l0 : List (S35)) (a1 : Int) : Option (Int × Int × Bool) := (merge_around.f k l0 a1).bind fun bt267 => (if bt267.2.2 = true then (if 0 ≤ bt267.1 then (if bt267.1 < (l0.length : Int) then (if bt267.1 ≤ bt267.2.1 then (if bt267.2.1 ≤ (l0.length : Int) then ((merge_words.f k ((l0.take (bt267.2.1 : Int).toNat).drop (bt267.1 : Int).toNat)).bind fun t275 => ((block_Word.f t275 false).bind fun t276 => (some ((rd_T35 l0 bt267.1).f0, t276, true)))) else (none)) else (none)) else (none)) else (none)) else (some (0, 0, false)))
theorem merge_Edit.mono : ∀ a0 a1 k, LeO (merge_Edit.f k a0 a1) (merge_Edit.f (k + 1) a0 a1) := by
 intro a0 a1 k
 unfold merge_Edit.f
 repeat' first
   | (with_reducible exact merge_around.mono _ _ _)
   | (with_reducible exact merge_words.mono _ _)
   | (with_reducible exact LeO.refl _)
   | (with_reducible exact LeO.none _)
   | (with_reducible refine LeO.ite ?_ ?_)
   | (with_reducible refine LeO.bind ?_ (fun _ => ?_))
   | exact merge_around.mono _ _ _
   | exact merge_words.mono _ _
   | exact LeO.none _
   | refine LeO.ite ?_ ?_
   | refine LeO.bind ?_ (fun _ => ?_)
def merge_Edit.T4 : Bool × List (List Nat × List Nat) := (true, [([], []), ([], []), ([0, 1], [0, 1]), ([2], [2]), ([3], [3]), ([], []), ([], []), ([], []), ([5, 6, 7], [5, 6, 7]), ([8], [8]), ([9, 9], [9]), ([4, 10], [4, 10]), ([11, 10, 0, 1, 2, 3, 4, 5, 6, 7, 8, 9, 10, 11], [11]), ([12, 0, 1, 2, 3, 4, 5, 6, 7, 8, 9, 10, 11, 12], [])])
def merge_Edit.B4 : List Nat := [0, 0, 3, 7, 15, 0, 0, 0, 224, 480, 992, 2047, 4095, 8191]
theorem merge_Edit.tab4 : rtab .any (opsOf Try.f18 4) = merge_Edit.T4 := by kernel_rfl
theorem merge_Edit.bits4 : waitsOk merge_Edit.T4.2 merge_Edit.B4 = true := by kernel_rfl
set_option maxHeartbeats 8000000 in
set_option maxRecDepth 100000 in
theorem merge_Edit.calls (k : Nat) (A0 : Option Addr) (c0 : Nat) (l0 : List (S35)) (a1 : Int) (r1 : Int) (r2 : Int) (r3 : Bool) (w : World) (hr0 : Kd.C k35 w A0 l0.length l0) (hc0 : l0.length ≤ c0) (h : merge_Edit.f k l0 a1 = some (r1, r2, r3)) :
  Calls Try.prog 18 #[.slice A0 l0.length c0, .int .i64 a1] w fun e w' => e = .returned (.tuple #[.agg #[.int .i64 r1, .int .u64 r2], .bool r3]) ∧ Below w.heap.size w w' := by
 have hu30 := Try.underlying30
 have HR0 := Aside0.mk hr0
 have HC0 := Aside0.mk hc0
 clear hr0 hc0
 have HB := Aside0.mk (Below.refl w.heap.size w)
 have H : ((merge_around.f k l0 a1).bind fun bt267 => (if bt267.2.2 = true then (if 0 ≤ bt267.1 then (if bt267.1 < (l0.length : Int) then (if bt267.1 ≤ bt267.2.1 then (if bt267.2.1 ≤ (l0.length : Int) then ((merge_words.f k ((l0.take (bt267.2.1 : Int).toNat).drop (bt267.1 : Int).toNat)).bind fun t275 => ((block_Word.f t275 false).bind fun t276 => (some ((rd_T35 l0 bt267.1).f0, t276, true)))) else (none)) else (none)) else (none)) else (none)) else (some (0, 0, false)))) = some (r1, r2, r3) := h
 clear h
 replace H := Option.bind_eq_some_iff.mp H
 obtain ⟨⟨t267, t268, t269⟩, A30, H⟩ := H
 replace H : (if t269 = true then (if 0 ≤ t267 then (if t267 < (l0.length : Int) then (if t267 ≤ t268 then (if t268 ≤ (l0.length : Int) then ((merge_words.f k ((l0.take (t268 : Int).toNat).drop (t267 : Int).toNat)).bind fun t275 => ((block_Word.f t275 false).bind fun t276 => (some ((rd_T35 l0 t267).f0, t276, true)))) else (none)) else (none)) else (none)) else (none)) else (some (0, 0, false))) = some (r1, r2, r3) := H
 have A3 := Aside0.mk A30
 clear A30
 by_cases c4 : t269 = true
 rotate_left
 ·
  replace c4 := Bool.eq_false_iff.mpr c4
  subst c4
  have H1 : (some (0, 0, false)) = some (r1, r2, r3) := by rw [if_neg (show ¬ (false = true) by decide)] at H; exact H
  clear H
  have H := H1
  clear H1
  simp only [Option.some.injEq, Prod.mk.injEq] at H
  obtain ⟨rfl, rfl, rfl⟩ := H
  go_enter Try.func18, Try.ntmps18
  go_wp2_with (first | ((with_reducible refine gate_dst (N := 4) rfl ?_); refine box_event ?hg (N := 4) ?hd (cs := #[.int .i64 0, .int .u64 0]) (t := 30) ?hr ?_; (case hd => rfl); (case hg => rfl); (case hr => first | (go_simp; done) | (go_simp; rfl)); intro gb266 hg w19 hbox hb; have n0_ := Aside0.mk (below_step (by repeat (first | (with_reducible first | exact HB.out | apply below_alloc | apply pw_below_drewN | apply below_drew1) | exact HB.out)) hb); have n1_ := Aside0.mk (hbox); have n2_ := Aside0.mk ((by rw [hg]; exact (below_size (by repeat (first | (with_reducible first | exact HB.out | apply below_alloc | apply pw_below_drewN | apply below_drew1) | exact HB.out))) : w.heap.size ≤ gb266)); have n3_ := Aside0.mk ((by rw [hg]; exact (below_size (by repeat (first | (with_reducible first | exact HB.out | apply below_alloc | apply pw_below_drewN | apply below_drew1) | exact HB.out))) : w.heap.size ≤ gb266)); clear HB; have HB := n0_; have BK266 := n1_; have GW266 := n2_; have GE266 := n3_; clear n0_ n1_ n2_ n3_; clear hb hbox hg) | ((with_reducible refine gate_callee (f := 57) rfl ?_); refine goesL_ (some 12) rfl rfl Try.func57 (by kernel_rfl) rfl #[.slice A0 l0.length c0, .int .i64 a1] rfl (by (try simp only [List.map_toArray, List.map_cons, List.map_nil]); first | done | rfl | (simp only [List.length_drop, List.length_take]; rfl)) ?_; (with_reducible refine (merge_around.calls k _ _ l0 a1 t267 t268 false _ ?side1 ?side2 A3.out).mono ?_); (case side1 => repeat (first | exact (Kd.C_below HR0.out HB.out) | (with_reducible refine Kd.C_alloc ?_ _) | (with_reducible refine Kd.C_drewN ?_ _) | (with_reducible refine Kd.C_drew ?_))); (case side2 => exact HC0.out); rintro e w20 ⟨rfl, hb⟩; refine ⟨_, rfl, ?_⟩; have n0_ := Aside0.mk (blk_below (g := gb266) (o := .cells #[.int .i64 0, .int .u64 0] 30 (0, 0)) (by (with_reducible repeat (first | refine blk_drewN ?_ _ | refine blk_drew ?_ | refine blk_alloc ?_ _)); exact BK266.out) hb); have n1_ := Aside0.mk (below_step (by repeat (first | (with_reducible first | exact HB.out | apply below_alloc | apply pw_below_drewN | apply below_drew1 | refine below_set ?_ GE266.out) | exact HB.out)) hb); clear BK266; clear HB; have BK266 := n0_; have HB := n1_; clear n0_ n1_; (try clear hb); (try clear hb2); (try clear hk); (try clear hi); have hcz21_0 : w20.cell? ⟨gb266, 0, none⟩ = some (.int .i64 0) := (blk_cell BK266.out 0).trans rfl; have hcz21_1 : w20.cell? ⟨gb266, 1, none⟩ = some (.int .u64 0) := (blk_cell BK266.out 1).trans rfl; have hfz21_0 := blk_frozen BK266.out 0; have hfz21_1 := blk_frozen BK266.out 1))
  refine bodyPost_ret (results_ct rfl _ _ gb266 30 #[.int .i64 0, .int .u64 0] (0, 0) _ rfl (by (with_reducible repeat (first | refine blk_drewN ?_ _ | refine blk_drew ?_ | refine blk_alloc ?_ _)); refine blk_put (cs := #[.int .i64 0, .int .u64 0]) ?_ 1 _ rfl; (with_reducible repeat (first | refine blk_drewN ?_ _ | refine blk_drew ?_ | refine blk_alloc ?_ _)); refine blk_put (cs := #[.int .i64 0, .int .u64 0]) ?_ 0 _ rfl; (with_reducible repeat (first | refine blk_drewN ?_ _ | refine blk_drew ?_ | refine blk_alloc ?_ _)); exact BK266.out) Try.underlying30 rfl (by kernel_rfl)) rfl ?_
  exact ⟨by first | rfl | (simp [errW_none, errW_some] <;> rfl) | (simp [*, errW_none, errW_some] <;> rfl), by repeat (first | (with_reducible first | exact HB.out | apply below_alloc | apply pw_below_drewN | apply below_drew1 | refine below_set ?_ GE266.out) | exact HB.out)⟩
 subst c4
 have H1 : (if 0 ≤ t267 then (if t267 < (l0.length : Int) then (if t267 ≤ t268 then (if t268 ≤ (l0.length : Int) then ((merge_words.f k ((l0.take (t268 : Int).toNat).drop (t267 : Int).toNat)).bind fun t275 => ((block_Word.f t275 false).bind fun t276 => (some ((rd_T35 l0 t267).f0, t276, true)))) else (none)) else (none)) else (none)) else (none)) = some (r1, r2, r3) := by rw [if_pos rfl] at H; exact H
 clear H
 have H := H1
 clear H1
 by_cases c5 : 0 ≤ t267
 rotate_left
 ·
  rw [if_neg c5] at H
  exact absurd H (by simp)
 rw [if_pos c5] at H
 have c5b0 : decide (0 ≤ t267) = true := decide_eq_true c5
 clear c5
 by_cases c6 : t267 < (l0.length : Int)
 rotate_left
 ·
  rw [if_neg c6] at H
  exact absurd H (by simp)
 rw [if_pos c6] at H
 have c6b0 : decide (t267 < (l0.length : Int)) = true := decide_eq_true c6
 clear c6
 have c7b0 := eq_true (of_decide_eq_true (by first | (with_reducible assumption) | assumption) : 0 ≤ t267)
 by_cases c8 : t267 ≤ t268
 rotate_left
 ·
  rw [if_neg c8] at H
  exact absurd H (by simp)
 rw [if_pos c8] at H
 have c8b0 := eq_true c8
 have c8b1 : decide (t267 ≤ t268) = true := decide_eq_true c8
 clear c8
 by_cases c9 : t268 ≤ (l0.length : Int)
 rotate_left
 ·
  rw [if_neg c9] at H
  exact absurd H (by simp)
 rw [if_pos c9] at H
 have c9b0 := eq_true c9
 have c9b1 : decide (t268 ≤ (l0.length : Int)) = true := decide_eq_true c9
 clear c9
 obtain ⟨y271, hy271⟩ : ∃ y_ : List (S35), y_ = ((l0.take (t268 : Int).toNat).drop (t267 : Int).toNat) := ⟨_, rfl⟩
 replace H : ((merge_words.f k y271).bind fun t275 => ((block_Word.f t275 false).bind fun t276 => (some ((rd_T35 l0 t267).f0, t276, true)))) = some (r1, r2, r3) := by first | (rw [hy271]; with_reducible exact H) | (have H2_ := (Option.bind_some _ _).symm.trans H; rw [hy271]; with_reducible exact H2_) | (have H2_ := (Option.bind_some _ _).symm.trans H; with_reducible exact H2_) | with_reducible exact H | (rw [hy271]; exact H) | exact H
 have Ny271 := Aside0.mk hy271
 clear hy271
 replace H := Option.bind_eq_some_iff.mp H
 obtain ⟨t275, A100, H⟩ := H
 replace H : ((block_Word.f t275 false).bind fun t276 => (some ((rd_T35 l0 t267).f0, t276, true))) = some (r1, r2, r3) := H
 have A10 := Aside0.mk A100
 clear A100
 replace H := Option.bind_eq_some_iff.mp H
 obtain ⟨t276, A110, H⟩ := H
 replace H : (some ((rd_T35 l0 t267).f0, t276, true)) = some (r1, r2, r3) := H
 have A11 := Aside0.mk A110
 clear A110
 simp only [Option.some.injEq, Prod.mk.injEq] at H
 obtain ⟨rfl, rfl, rfl⟩ := H
 go_enter Try.func18, Try.ntmps18
 try go_wp2_with (first | ((with_reducible refine gate_dst (N := 4) rfl ?_); refine box_event ?hg (N := 4) ?hd (cs := #[.int .i64 0, .int .u64 0]) (t := 30) ?hr ?_; (case hd => rfl); (case hg => rfl); (case hr => first | (go_simp; done) | (go_simp; rfl)); intro gb266 hg w12 hbox hb; have n0_ := Aside0.mk (below_step (by repeat (first | (with_reducible first | exact HB.out | apply below_alloc | apply pw_below_drewN | apply below_drew1) | exact HB.out)) hb); have n1_ := Aside0.mk (hbox); have n2_ := Aside0.mk ((by rw [hg]; exact (below_size (by repeat (first | (with_reducible first | exact HB.out | apply below_alloc | apply pw_below_drewN | apply below_drew1) | exact HB.out))) : w.heap.size ≤ gb266)); have n3_ := Aside0.mk ((by rw [hg]; exact (below_size (by repeat (first | (with_reducible first | exact HB.out | apply below_alloc | apply pw_below_drewN | apply below_drew1) | exact HB.out))) : w.heap.size ≤ gb266)); clear HB; have HB := n0_; have BK266 := n1_; have GW266 := n2_; have GE266 := n3_; clear n0_ n1_ n2_ n3_; clear hb hbox hg) | ((with_reducible refine gate_callee (f := 57) rfl ?_); refine goesL_ (some 12) rfl rfl Try.func57 (by kernel_rfl) rfl #[.slice A0 l0.length c0, .int .i64 a1] rfl (by (try simp only [List.map_toArray, List.map_cons, List.map_nil]); first | done | rfl | (simp only [List.length_drop, List.length_take]; rfl)) ?_; (with_reducible refine (merge_around.calls k _ _ l0 a1 t267 t268 true _ ?side1 ?side2 A3.out).mono ?_); (case side1 => repeat (first | exact (Kd.C_below HR0.out HB.out) | (with_reducible refine Kd.C_alloc ?_ _) | (with_reducible refine Kd.C_drewN ?_ _) | (with_reducible refine Kd.C_drew ?_))); (case side2 => exact HC0.out); rintro e w13 ⟨rfl, hb⟩; refine ⟨_, rfl, ?_⟩; have n0_ := Aside0.mk (blk_below (g := gb266) (o := .cells #[.int .i64 0, .int .u64 0] 30 (0, 0)) (by (with_reducible repeat (first | refine blk_drewN ?_ _ | refine blk_drew ?_ | refine blk_alloc ?_ _)); exact BK266.out) hb); have n1_ := Aside0.mk (below_step (by repeat (first | (with_reducible first | exact HB.out | apply below_alloc | apply pw_below_drewN | apply below_drew1 | refine below_set ?_ GE266.out) | exact HB.out)) hb); clear BK266; clear HB; have BK266 := n0_; have HB := n1_; clear n0_ n1_; (try clear hb); (try clear hb2); (try clear hk); (try clear hi)))
 have n0_ := Aside0.mk (blk_drew BK266.out)
 have n1_ := Aside0.mk (below_drew1 HB.out)
 clear BK266
 clear HB
 have BK266 := n0_
 have HB := n1_
 clear n0_ n1_
 have p270 : 0 ≤ (t267 : Int) := of_decide_eq_true (by first | (with_reducible assumption) | assumption)
 have q270 : t267 < (l0.length : Int) := of_decide_eq_true (by first | (with_reducible assumption) | assumption)
 obtain ⟨ad270, e270, hx270_0, hx270_1, hx270_2⟩ := at_T35 HR0.out t267 p270 q270
 have hw270_2 := hx270_2
 have hw270_1 := hx270_1
 have hw270_0 := hx270_0
 cases e270
 replace hx270_0 := (HB.out.cell (World.block_lt_of_cell? w _ hx270_0)).trans hx270_0
 replace hx270_1 := (HB.out.cell (World.block_lt_of_cell? w _ hx270_1)).trans hx270_1
 replace hx270_2 := (HB.out.cell (World.block_lt_of_cell? w _ hx270_2)).trans hx270_2
 replace p270 := eq_true p270
 replace q270 := eq_true q270
 have q15 : (t268 : Int) ≤ ((l0.length : Int) : Int) := of_decide_eq_true (by first | (with_reducible assumption) | assumption)
 obtain ⟨i015, hi015, _, hsz15, _⟩ := info_parts info35
 have hroom15 : l0.length ≤ c0 := HC0.out
 have hC15 : Kd.C k35 _ (some ad270) l0.length l0 := HR0.out
 have ql15 : (t267 : Int) ≤ (t268 : Int) := of_decide_eq_true (by first | (with_reducible assumption) | assumption)
 have q015 : (0 : Int) ≤ (t267 : Int) := of_decide_eq_true (by first | (with_reducible assumption) | assumption)
 have hcut15 := cut_mid (P := Try.prog) 22 35 .i64 .i64 Try.underlying22 hi015 3 hsz15 (some ad270) l0.length c0 t267 t268 q015 ql15 q15 hroom15
 have hr15 := Kd.C_mid (lo := (t267 : Int).toNat) (hi := (t268 : Int).toNat) (c := c0) hC15 (by omega) (by omega) hroom15
 obtain ⟨A15, hA15⟩ : ∃ A1, A1 = (if c0 = (t267 : Int).toNat then (some ad270) else ((some ad270) : Option Addr).map (·.add ((t267 : Int).toNat * 3))) := ⟨_, rfl⟩
 obtain ⟨c15, hc15⟩ : ∃ c1, c1 = c0 - (t267 : Int).toNat := ⟨_, rfl⟩
 have hy15 : y271.length = (t268 : Int).toNat - (t267 : Int).toNat := (by rw [Ny271.out, List.length_drop, List.length_take] <;> omega)
 rw [show ((l0).take (t268 : Int).toNat).drop (t267 : Int).toNat = y271 from Ny271.out.symm] at hr15
 replace hr15 : Kd.C k35 _ A15 y271.length y271 := (by rw [hA15]; exact hr15)
 rw [← hy15, ← hA15, ← hc15] at hcut15
 have HR274 := Aside0.mk hr15
 have HC274 := Aside0.mk (show y271.length ≤ c15 from by rw [hy15, hc15]; exact Nat.sub_le_sub_right (Nat.le_trans (by omega) hroom15) _)
 clear hr15 hC15 hroom15 hi015 hsz15 hc15
 have KY15 := Aside0.mk hy15
 have KA15 := Aside0.mk hA15
 clear hy15 hA15
 replace q15 := eq_true q15
 refine start_ (n := 14) (S := fun w' => w'.cell? (ad270.add ((t267).toNat * 3)) = some (.int .i64 ((rd_T35 l0 t267).f0)) ∧ w'.cell? ⟨(ad270.add ((t267).toNat * 3)).block, (ad270.add ((t267).toNat * 3)).off + 1, none⟩ = some (.int .i64 ((rd_T35 l0 t267).f1)) ∧ w'.cell? ⟨(ad270.add ((t267).toNat * 3)).block, (ad270.add ((t267).toNat * 3)).off + 2, none⟩ = some (.bool ((rd_T35 l0 t267).f2))) (ds := []) (onA 14 0) (by kernel_rfl) rfl rfl ⟨((HB.out.cell (World.block_lt_of_cell? w _ hw270_0)).trans hw270_0), ((HB.out.cell (World.block_lt_of_cell? w _ hw270_1)).trans hw270_1), ((HB.out.cell (World.block_lt_of_cell? w _ hw270_2)).trans hw270_2)⟩ (fun hHeld => ?_); refine with_tabW merge_Edit.tab4 merge_Edit.bits4 (fun HT_ HW_ => ?_)
 generalize w13.drew = w14 at BK266 HB HR274 hx270_0 hx270_1 hx270_2 hHeld ⊢
 refine pure_ (i := 0) (N := some 19) (v := ?_) (a' := ?_) (onA 14 1) rfl rfl (any_of HT_.out (by kernel_rfl)) (fun _ _ _ h => h) (Or.inl ⟨by rfl, ?_⟩) ?_ ?_
 rotate_left
 ·
  intro w'
  go_simp
  with_reducible rfl
 rotate_left
 ·
  simp only [Act.put, List.setIfInBounds_toArray, List.set_cons_zero, List.set_cons_succ, i64_w, i32_w]
  rfl
 refine pure_ (i := 1) (N := some 20) (v := ?_) (a' := ?_) (onA 14 2) rfl rfl (any_of HT_.out (by kernel_rfl)) (fun _ _ _ h => h) (Or.inl ⟨by rfl, ?_⟩) ?_ ?_
 rotate_left
 ·
  intro w'
  go_simp
  with_reducible rfl
 rotate_left
 ·
  simp only [Act.put, List.setIfInBounds_toArray, List.set_cons_zero, List.set_cons_succ, i64_w, i32_w]
  rfl
 refine pure_ (i := 2) (N := some 21) (v := ?_) (a' := ?_) (onA 14 3) rfl rfl (any_of HT_.out (by kernel_rfl)) (fun _ _ _ h => h) (Or.inl ⟨by rfl, ?_⟩) ?_ ?_
 rotate_left
 ·
  intro w'
  go_simp
  with_reducible rfl
 rotate_left
 ·
  simp only [Act.put, List.setIfInBounds_toArray, List.set_cons_zero, List.set_cons_succ, i64_w, i32_w]
  rfl
 refine pure_ (i := 3) (N := some 22) (v := ?_) (a' := ?_) (onA 14 4) rfl rfl (any_of HT_.out (by kernel_rfl)) (fun _ _ _ h => h) (Or.inl ⟨by rfl, ?_⟩) ?_ ?_
 rotate_left
 ·
  intro w'
  go_simp
  with_reducible rfl
 rotate_left
 ·
  simp only [Act.put, List.setIfInBounds_toArray, List.set_cons_zero, List.set_cons_succ, i64_w, i32_w]
  rfl
 refine pure_ (i := 5) (N := some 24) (v := ?_) (a' := ?_) #[tt_, tt_, tt_, tt_, ff_, tt_, ff_, ff_, ff_, ff_, ff_, ff_, ff_, ff_] rfl rfl (any_of HT_.out (by kernel_rfl)) (fun _ _ _ h => h) (Or.inl ⟨by rfl, ?_⟩) ?_ ?_
 rotate_left
 ·
  intro w'
  go_simp
  with_reducible rfl
 rotate_left
 ·
  simp only [Act.put, List.setIfInBounds_toArray, List.set_cons_zero, List.set_cons_succ, i64_w, i32_w]
  rfl
 refine pure_ (i := 6) (N := some 25) (v := ?_) (a' := ?_) #[tt_, tt_, tt_, tt_, ff_, tt_, tt_, ff_, ff_, ff_, ff_, ff_, ff_, ff_] rfl rfl (any_of HT_.out (by kernel_rfl)) (fun _ _ _ h => h) (Or.inl ⟨by rfl, ?_⟩) ?_ ?_
 rotate_left
 ·
  intro w'
  go_simp
  with_reducible rfl
 rotate_left
 ·
  simp only [Act.put, List.setIfInBounds_toArray, List.set_cons_zero, List.set_cons_succ, i64_w, i32_w]
  rfl
 refine pure_ (i := 7) (N := some 26) (v := ?_) (a' := ?_) #[tt_, tt_, tt_, tt_, ff_, tt_, tt_, tt_, ff_, ff_, ff_, ff_, ff_, ff_] rfl rfl (any_of HT_.out (by kernel_rfl)) (fun _ _ _ h => h) (Or.inl ⟨by rfl, ?_⟩) ?_ ?_
 rotate_left
 ·
  intro w'
  go_simp
  with_reducible rfl
 rotate_left
 ·
  simp only [Act.put, List.setIfInBounds_toArray, List.set_cons_zero, List.set_cons_succ, i64_w, i32_w]
  rfl
 refine pure_ (i := 8) (N := some 27) (v := ?_) (a' := ?_) #[tt_, tt_, tt_, tt_, ff_, tt_, tt_, tt_, tt_, ff_, ff_, ff_, ff_, ff_] rfl rfl (any_of HT_.out (by kernel_rfl)) (fun _ _ _ h => h) (Or.inl ⟨by rfl, ?_⟩) ?_ ?_
 rotate_left
 ·
  intro w'
  go_simp
  with_reducible rfl
 rotate_left
 ·
  simp only [Act.put, List.setIfInBounds_toArray, List.set_cons_zero, List.set_cons_succ, i64_w, i32_w]
  rfl
 refine take_ (i := 4) (N := some 23) (v := ?_) (a' := ?_) (onA 14 9) rfl rfl (take_ofW HT_.out HW_.out (by kernel_rfl)) (fun _ _ _ h => h) (Or.inl ⟨by rfl, ?_⟩) hHeld ?_ ?_
 rotate_left
 ·
  rintro w' ⟨s0, s1, s2⟩
  go_simp
  with_reducible rfl
 rotate_left
 ·
  simp only [Act.put, List.setIfInBounds_toArray, List.set_cons_zero, List.set_cons_succ, i64_w, i32_w]
  rfl
 refine one_ (i := 9) (N := some 28) (onA 14 10) rfl rfl (one_of HT_.out (by kernel_rfl)) (by decide) (fun K hK => ?_)
 refine goes_ Try.func58 (by kernel_rfl) rfl #[.slice A15 y271.length c15] (by rfl) rfl rfl (by (try simp only [List.map_toArray, List.map_cons, List.map_nil]); first | done | rfl | (simp only [List.length_drop, List.length_take]; rfl)) ?_
 with_reducible refine (merge_words.calls k _ _ y271 t275 _ ?side1 ?side2 A10.out).mono ?_
 (case side1 => repeat (first | exact (Kd.C_below HR274.out HB.out) | (with_reducible refine Kd.C_alloc ?_ _) | (with_reducible refine Kd.C_drewN ?_ _) | (with_reducible refine Kd.C_drew ?_)))
 (case side2 => exact HC274.out)
 rintro e w16 ⟨rfl, hb⟩
 refine ⟨_, rfl, ?_⟩
 have n0_ := Aside0.mk (blk_below (g := gb266) (o := .cells #[.int .i64 0, .int .u64 0] 30 (0, 0)) (by (with_reducible repeat (first | refine blk_drewN ?_ _ | refine blk_drew ?_ | refine blk_alloc ?_ _)); exact BK266.out) hb)
 have n1_ := Aside0.mk (below_step (by repeat (first | (with_reducible first | exact HB.out | apply below_alloc | apply pw_below_drewN | apply below_drew1 | refine below_set ?_ GE266.out) | exact HB.out)) hb)
 clear BK266
 clear HB
 have BK266 := n0_
 have HB := n1_
 clear n0_ n1_
 (try clear hb)
 (try clear hb2)
 (try clear hk)
 (try clear hi)
 refine hK.out _ _ ⟨((HB.out.cell (World.block_lt_of_cell? w _ hw270_0)).trans hw270_0), ((HB.out.cell (World.block_lt_of_cell? w _ hw270_1)).trans hw270_1), ((HB.out.cell (World.block_lt_of_cell? w _ hw270_2)).trans hw270_2)⟩ (fun hHeld => ?_)
 clear hK K
 refine norm_ (a' := ?_) ?_ ?_
 rotate_left
 ·
  show Act.put _ (some 28) _ = _
  simp only [Act.put, List.setIfInBounds_toArray, List.set_cons_zero, List.set_cons_succ, i64_w, i32_w]
  rfl
 refine one_ (i := 10) (N := some 29) (onA 14 11) rfl rfl (one_of HT_.out (by kernel_rfl)) (by decide) (fun K hK => ?_)
 refine goes_ Try.func61 (by kernel_rfl) rfl #[.int .i64 t275, .bool false] (by rfl) rfl rfl (by (try simp only [List.map_toArray, List.map_cons, List.map_nil]); first | done | rfl | (simp only [List.length_drop, List.length_take]; rfl)) ?_
 with_reducible refine (block_Word.calls t275 false t276 _ A11.out).mono ?_
 rintro e w' ⟨rfl, ⟨nd, rfl⟩⟩
 refine ⟨_, rfl, ?_⟩
 refine hK.out _ _ ⟨((HB.out.cell (World.block_lt_of_cell? w _ hw270_0)).trans hw270_0), ((HB.out.cell (World.block_lt_of_cell? w _ hw270_1)).trans hw270_1), ((HB.out.cell (World.block_lt_of_cell? w _ hw270_2)).trans hw270_2)⟩ (fun hHeld => ?_)
 clear hK K
 refine norm_ (a' := ?_) ?_ ?_
 rotate_left
 ·
  show Act.put _ (some 29) _ = _
  simp only [Act.put, List.setIfInBounds_toArray, List.set_cons_zero, List.set_cons_succ, i64_w, i32_w]
  rfl
 refine pure_ (i := 11) (N := some 30) (v := ?_) (a' := ?_) (onA 14 12) rfl rfl (any_of HT_.out (by kernel_rfl)) (fun _ _ _ h => h) (Or.inl ⟨by rfl, ?_⟩) ?_ ?_
 rotate_left
 ·
  intro w'
  go_simp
  with_reducible rfl
 rotate_left
 ·
  simp only [Act.put, List.setIfInBounds_toArray, List.set_cons_zero, List.set_cons_succ, i64_w, i32_w]
  rfl
 refine one_ (i := 12) (N := none) (onA 14 13) rfl rfl (one_of HT_.out (by kernel_rfl)) (by decide) (fun K hK => ?_)
 have hs17 : w16.cell? ⟨gb266, 0, none⟩ = some (.int .i64 0) := (blk_cell BK266.out 0).trans rfl
 have hfs17 := blk_frozen BK266.out 0
 have hs18 : w16.cell? ⟨gb266, 1, none⟩ = some (.int .u64 0) := (blk_cell BK266.out 1).trans rfl
 have hfs18 := blk_frozen BK266.out 1
 refine skip_ (w1 := ?_) (by rfl) rfl ?_ ?_
 rotate_left
 ·
  go_simp
  rfl
 refine hK.out _ _ ⟨((cell_far (p := ⟨gb266, _, none⟩) (by first | exact Nat.ne_of_lt (Nat.lt_of_lt_of_le (by have := World.block_lt_of_cell? _ _ hw270_0; first | rwa [add_block] at this | exact this) GW266.out) | (rw [add_block]; exact Nat.ne_of_lt (Nat.lt_of_lt_of_le (by have := World.block_lt_of_cell? _ _ hw270_0; first | rwa [add_block] at this | exact this) GW266.out)) | (show (Addr.add _ _).block ≠ _; rw [add_block]; exact Nat.ne_of_lt (Nat.lt_of_lt_of_le (by have := World.block_lt_of_cell? _ _ hw270_0; first | rwa [add_block] at this | exact this) GW266.out)) | (dsimp only; exact Nat.ne_of_lt (Nat.lt_of_lt_of_le (by have := World.block_lt_of_cell? _ _ hw270_0; first | rwa [add_block] at this | exact this) GW266.out))) _).trans (((cell_far (p := ⟨gb266, _, none⟩) (by first | exact Nat.ne_of_lt (Nat.lt_of_lt_of_le (by have := World.block_lt_of_cell? _ _ hw270_0; first | rwa [add_block] at this | exact this) GW266.out) | (rw [add_block]; exact Nat.ne_of_lt (Nat.lt_of_lt_of_le (by have := World.block_lt_of_cell? _ _ hw270_0; first | rwa [add_block] at this | exact this) GW266.out)) | (show (Addr.add _ _).block ≠ _; rw [add_block]; exact Nat.ne_of_lt (Nat.lt_of_lt_of_le (by have := World.block_lt_of_cell? _ _ hw270_0; first | rwa [add_block] at this | exact this) GW266.out)) | (dsimp only; exact Nat.ne_of_lt (Nat.lt_of_lt_of_le (by have := World.block_lt_of_cell? _ _ hw270_0; first | rwa [add_block] at this | exact this) GW266.out))) _).trans (hHeld.1)))), ((cell_far (p := ⟨gb266, _, none⟩) (by first | exact Nat.ne_of_lt (Nat.lt_of_lt_of_le (by have := World.block_lt_of_cell? _ _ hw270_1; first | rwa [add_block] at this | exact this) GW266.out) | (rw [add_block]; exact Nat.ne_of_lt (Nat.lt_of_lt_of_le (by have := World.block_lt_of_cell? _ _ hw270_1; first | rwa [add_block] at this | exact this) GW266.out)) | (show (Addr.add _ _).block ≠ _; rw [add_block]; exact Nat.ne_of_lt (Nat.lt_of_lt_of_le (by have := World.block_lt_of_cell? _ _ hw270_1; first | rwa [add_block] at this | exact this) GW266.out)) | (dsimp only; exact Nat.ne_of_lt (Nat.lt_of_lt_of_le (by have := World.block_lt_of_cell? _ _ hw270_1; first | rwa [add_block] at this | exact this) GW266.out))) _).trans (((cell_far (p := ⟨gb266, _, none⟩) (by first | exact Nat.ne_of_lt (Nat.lt_of_lt_of_le (by have := World.block_lt_of_cell? _ _ hw270_1; first | rwa [add_block] at this | exact this) GW266.out) | (rw [add_block]; exact Nat.ne_of_lt (Nat.lt_of_lt_of_le (by have := World.block_lt_of_cell? _ _ hw270_1; first | rwa [add_block] at this | exact this) GW266.out)) | (show (Addr.add _ _).block ≠ _; rw [add_block]; exact Nat.ne_of_lt (Nat.lt_of_lt_of_le (by have := World.block_lt_of_cell? _ _ hw270_1; first | rwa [add_block] at this | exact this) GW266.out)) | (dsimp only; exact Nat.ne_of_lt (Nat.lt_of_lt_of_le (by have := World.block_lt_of_cell? _ _ hw270_1; first | rwa [add_block] at this | exact this) GW266.out))) _).trans (hHeld.2.1)))), ((cell_far (p := ⟨gb266, _, none⟩) (by first | exact Nat.ne_of_lt (Nat.lt_of_lt_of_le (by have := World.block_lt_of_cell? _ _ hw270_2; first | rwa [add_block] at this | exact this) GW266.out) | (rw [add_block]; exact Nat.ne_of_lt (Nat.lt_of_lt_of_le (by have := World.block_lt_of_cell? _ _ hw270_2; first | rwa [add_block] at this | exact this) GW266.out)) | (show (Addr.add _ _).block ≠ _; rw [add_block]; exact Nat.ne_of_lt (Nat.lt_of_lt_of_le (by have := World.block_lt_of_cell? _ _ hw270_2; first | rwa [add_block] at this | exact this) GW266.out)) | (dsimp only; exact Nat.ne_of_lt (Nat.lt_of_lt_of_le (by have := World.block_lt_of_cell? _ _ hw270_2; first | rwa [add_block] at this | exact this) GW266.out))) _).trans (((cell_far (p := ⟨gb266, _, none⟩) (by first | exact Nat.ne_of_lt (Nat.lt_of_lt_of_le (by have := World.block_lt_of_cell? _ _ hw270_2; first | rwa [add_block] at this | exact this) GW266.out) | (rw [add_block]; exact Nat.ne_of_lt (Nat.lt_of_lt_of_le (by have := World.block_lt_of_cell? _ _ hw270_2; first | rwa [add_block] at this | exact this) GW266.out)) | (show (Addr.add _ _).block ≠ _; rw [add_block]; exact Nat.ne_of_lt (Nat.lt_of_lt_of_le (by have := World.block_lt_of_cell? _ _ hw270_2; first | rwa [add_block] at this | exact this) GW266.out)) | (dsimp only; exact Nat.ne_of_lt (Nat.lt_of_lt_of_le (by have := World.block_lt_of_cell? _ _ hw270_2; first | rwa [add_block] at this | exact this) GW266.out))) _).trans (hHeld.2.2))))⟩ (fun hHeld => ?_)
 clear hK K
 refine pure_ (i := 13) (N := some 5) (v := ?_) (a' := ?_) (onA 14 14) rfl rfl (any_of HT_.out (by kernel_rfl)) (fun _ _ _ h => h) (Or.inl ⟨by rfl, ?_⟩) ?_ ?_
 rotate_left
 ·
  intro w'
  go_simp
  with_reducible rfl
 rotate_left
 ·
  simp only [Act.put, List.setIfInBounds_toArray, List.set_cons_zero, List.set_cons_succ, i64_w, i32_w]
  rfl
 refine done_ (done_of HT_.out (by kernel_rfl)) ?_
 try go_wp2
 refine bodyPost_ret (results_ct rfl _ _ gb266 30 #[.int .i64 ((rd_T35 l0 t267).f0), .int .u64 t276] (0, 0) _ rfl (by (with_reducible repeat (first | refine blk_drewN ?_ _ | refine blk_drew ?_ | refine blk_alloc ?_ _)); refine blk_put (cs := #[.int .i64 ((rd_T35 l0 t267).f0), .int .u64 0]) ?_ 1 _ rfl; (with_reducible repeat (first | refine blk_drewN ?_ _ | refine blk_drew ?_ | refine blk_alloc ?_ _)); refine blk_put (cs := #[.int .i64 0, .int .u64 0]) ?_ 0 _ rfl; (with_reducible repeat (first | refine blk_drewN ?_ _ | refine blk_drew ?_ | refine blk_alloc ?_ _)); exact BK266.out) Try.underlying30 rfl (by kernel_rfl)) rfl ?_
 exact ⟨by first | rfl | (simp [errW_none, errW_some] <;> rfl) | (simp [*, errW_none, errW_some] <;> rfl), by repeat (first | (with_reducible first | exact HB.out | apply below_alloc | apply pw_below_drewN | apply below_drew1 | refine below_set ?_ GE266.out) | exact HB.out)⟩

/-! ### image_Free: function 46 -/
def image_Free.f (k : Nat) (l0 : List Int) (a1 : Int) : Option ((List (S30)) × Int) := (image_find.f k l0 a1).bind fun bt277 => (if (bt277.1.length : Int) = 0 then (some (([] : List (S30)), 6)) else ((merge_Edit.f k bt277.1 bt277.2).bind fun bt281 => (if bt281.2.2 = true then (some ((([(⟨bt281.1, bt281.2.1⟩ : S30)] : List (S30))), 0)) else (some (([] : List (S30)), 1)))))
theorem image_Free.mono : ∀ a0 a1 k, LeO (image_Free.f k a0 a1) (image_Free.f (k + 1) a0 a1) := by
 intro a0 a1 k
 unfold image_Free.f
 repeat' first
   | (with_reducible exact image_find.mono _ _ _)
   | (with_reducible exact merge_Edit.mono _ _ _)
   | (with_reducible exact LeO.refl _)
   | (with_reducible exact LeO.none _)
   | (with_reducible refine LeO.ite ?_ ?_)
   | (with_reducible refine LeO.bind ?_ (fun _ => ?_))
   | exact image_find.mono _ _ _
   | exact merge_Edit.mono _ _ _
   | exact LeO.none _
   | refine LeO.ite ?_ ?_
   | refine LeO.bind ?_ (fun _ => ?_)
set_option maxHeartbeats 8000000 in
set_option maxRecDepth 100000 in
theorem image_Free.calls (k : Nat) (A0 : Option Addr) (c0 : Nat) (l0 : List Int) (a1 : Int) (r1 : List (S30)) (r2 : Int) (w : World) (hr0 : Kd.C (Kd.int .u64) w A0 l0.length l0) (hc0 : l0.length ≤ c0) (h : image_Free.f k l0 a1 = some (r1, r2)) :
  Calls Try.prog 46 #[.slice A0 l0.length c0, .int .i64 a1] w fun e w' => ∃ v0_ : Value, e = .returned (.tuple #[v0_, .int .i64 r2]) ∧ Kd.R k30 30 w' w.heap.size (fun _ => True) v0_ r1 ∧ Below w.heap.size w w' := by
 have hu30 := Try.underlying30
 have HR0 := Aside0.mk hr0
 have HC0 := Aside0.mk hc0
 clear hr0 hc0
 have HB := Aside0.mk (Below.refl w.heap.size w)
 have H : ((image_find.f k l0 a1).bind fun bt277 => (if (bt277.1.length : Int) = 0 then (some (([] : List (S30)), 6)) else ((merge_Edit.f k bt277.1 bt277.2).bind fun bt281 => (if bt281.2.2 = true then (some ((([(⟨bt281.1, bt281.2.1⟩ : S30)] : List (S30))), 0)) else (some (([] : List (S30)), 1)))))) = some (r1, r2) := h
 clear h
 replace H := Option.bind_eq_some_iff.mp H
 obtain ⟨⟨t277, t278⟩, A30, H⟩ := H
 replace H : (if (t277.length : Int) = 0 then (some (([] : List (S30)), 6)) else ((merge_Edit.f k t277 t278).bind fun bt281 => (if bt281.2.2 = true then (some ((([(⟨bt281.1, bt281.2.1⟩ : S30)] : List (S30))), 0)) else (some (([] : List (S30)), 1))))) = some (r1, r2) := H
 have A3 := Aside0.mk A30
 clear A30
 by_cases c4 : (t277.length : Int) = 0
 ·
  rw [if_pos c4] at H
  have c4b0 : ((t277.length : Int) == 0) = true := beq_iff_eq.mpr c4
  have c4b1 : ((t277.length : Int) != 0) = false := bne_eq_false_iff_eq.mpr c4
  clear c4
  simp only [Option.some.injEq, Prod.mk.injEq] at H
  obtain ⟨rfl, rfl⟩ := H
  go_enter Try.func46, Try.ntmps46
  go_wp2_with (first | ((with_reducible refine gate_callee (f := 73) rfl ?_); refine goesL_ (some 13) rfl rfl Try.func73 (by kernel_rfl) rfl #[.slice A0 l0.length c0, .int .i64 a1] rfl (by (try simp only [List.map_toArray, List.map_cons, List.map_nil]); first | done | rfl | (simp only [List.length_drop, List.length_take]; rfl)) ?_; (with_reducible refine (image_find.calls k _ _ l0 a1 t277 t278 _ ?side1 ?side2 A3.out).mono ?_); (case side1 => repeat (first | exact HR0.out | (with_reducible refine Kd.C_alloc ?_ _) | (with_reducible refine Kd.C_drewN ?_ _) | (with_reducible refine Kd.C_drew ?_))); (case side2 => exact HC0.out); rintro e w5 ⟨v279, rfl, ho0, hb⟩; refine ⟨_, rfl, ?_⟩; have n0_ := Aside0.mk (Kd.R_lower ho0 (below_size (by repeat (first | (with_reducible first | exact HB.out | apply below_alloc | apply pw_below_drewN | apply below_drew1) | exact HB.out)))); have n1_ := Aside0.mk (below_step (by repeat (first | (with_reducible first | exact HB.out | apply below_alloc | apply pw_below_drewN | apply below_drew1) | exact HB.out)) hb); clear HB; have HO280 := n0_; have HB := n1_; clear n0_ n1_; (try clear hb); (try clear hb2); (try clear hk); (try clear hi); (try clear ho0); obtain ⟨Ao6, co6, eo6⟩ := Kd.R_slice HO280.out; subst eo6))
  go_ret2
  exact ⟨_, by first | rfl | (simp [errW_none, errW_some] <;> rfl) | (simp [*, errW_none, errW_some] <;> rfl), by first | exact Kd.R_nil _ _ _ _ _ | exact Kd.N_nil _ _ _ _ _ | exact Kd.V_nil _ _ _ _ _ | exact Kd.Q_nil _ _ _ _ _ | exact Kd.S_nil _ _ _ _ _, by repeat (first | (with_reducible first | exact HB.out | apply below_alloc | apply pw_below_drewN | apply below_drew1) | exact HB.out)⟩
 rw [if_neg c4] at H
 have c4b0 : ((t277.length : Int) == 0) = false := beq_eq_false_iff_ne.mpr c4
 have c4b1 : ((t277.length : Int) != 0) = true := bne_iff_ne.mpr c4
 have c4b2 : ¬ (t277 = []) := fun h_ => c4 (by rw [h_]; rfl)
 replace H := Option.bind_eq_some_iff.mp H
 obtain ⟨⟨t281, t282, t283⟩, A70, H⟩ := H
 replace H : (if t283 = true then (some ((([(⟨t281, t282⟩ : S30)] : List (S30))), 0)) else (some (([] : List (S30)), 1))) = some (r1, r2) := H
 have A7 := Aside0.mk A70
 clear A70
 by_cases c8 : t283 = true
 rotate_left
 ·
  replace c8 := Bool.eq_false_iff.mpr c8
  subst c8
  have H1 : (some (([] : List (S30)), 1)) = some (r1, r2) := by rw [if_neg (show ¬ (false = true) by decide)] at H; exact H
  clear H
  have H := H1
  clear H1
  simp only [Option.some.injEq, Prod.mk.injEq] at H
  obtain ⟨rfl, rfl⟩ := H
  go_enter Try.func46, Try.ntmps46
  go_wp2_with (first | ((with_reducible refine gate_callee (f := 73) rfl ?_); refine goesL_ (some 13) rfl rfl Try.func73 (by kernel_rfl) rfl #[.slice A0 l0.length c0, .int .i64 a1] rfl (by (try simp only [List.map_toArray, List.map_cons, List.map_nil]); first | done | rfl | (simp only [List.length_drop, List.length_take]; rfl)) ?_; (with_reducible refine (image_find.calls k _ _ l0 a1 t277 t278 _ ?side1 ?side2 A3.out).mono ?_); (case side1 => repeat (first | exact HR0.out | (with_reducible refine Kd.C_alloc ?_ _) | (with_reducible refine Kd.C_drewN ?_ _) | (with_reducible refine Kd.C_drew ?_))); (case side2 => exact HC0.out); rintro e w16 ⟨v279, rfl, ho0, hb⟩; refine ⟨_, rfl, ?_⟩; have n0_ := Aside0.mk (Kd.R_lower ho0 (below_size (by repeat (first | (with_reducible first | exact HB.out | apply below_alloc | apply pw_below_drewN | apply below_drew1) | exact HB.out)))); have n1_ := Aside0.mk (below_step (by repeat (first | (with_reducible first | exact HB.out | apply below_alloc | apply pw_below_drewN | apply below_drew1) | exact HB.out)) hb); clear HB; have HO280 := n0_; have HB := n1_; clear n0_ n1_; (try clear hb); (try clear hb2); (try clear hk); (try clear hi); (try clear ho0); obtain ⟨Ao17, co17, eo17⟩ := Kd.R_slice HO280.out; subst eo17) | ((with_reducible refine gate_callee (f := 18) rfl ?_); refine goesL_ (some 22) rfl rfl Try.func18 (by kernel_rfl) rfl #[.slice Ao17 t277.length co17, .int .i64 t278] rfl (by (try simp only [List.map_toArray, List.map_cons, List.map_nil]); first | done | rfl | (simp only [List.length_drop, List.length_take]; rfl)) ?_; (with_reducible refine (merge_Edit.calls k _ _ t277 t278 t281 t282 false _ ?side1 ?side2 A7.out).mono ?_); (case side1 => repeat (first | exact (Kd.R_reads' HO280.out).2.2 | (with_reducible refine Kd.C_alloc ?_ _) | (with_reducible refine Kd.C_drewN ?_ _) | (with_reducible refine Kd.C_drew ?_))); (case side2 => exact (Kd.R_reads' HO280.out).2.1); rintro e w18 ⟨rfl, hb⟩; refine ⟨_, rfl, ?_⟩; have n0_ := Aside0.mk (Kd.R_below (by (with_reducible repeat (first | apply Kd.R_alloc | apply Kd.R_drewN | apply Kd.R_drew)); exact HO280.out) hb); have n1_ := Aside0.mk (below_step (by repeat (first | (with_reducible first | exact HB.out | apply below_alloc | apply pw_below_drewN | apply below_drew1) | exact HB.out)) hb); clear HO280; clear HB; have HO280 := n0_; have HB := n1_; clear n0_ n1_; (try clear hb); (try clear hb2); (try clear hk); (try clear hi)) | ((with_reducible refine gate_dst (N := 8) rfl ?_); refine box_event ?hg (N := 8) ?hd (cs := #[.int .i64 0, .int .u64 0]) (t := 30) ?hr ?_; (case hd => rfl); (case hg => rfl); (case hr => first | (go_simp; done) | (go_simp; rfl)); intro gb284 hg w19 hbox hb; have n0_ := Aside0.mk (Kd.R_below (by (with_reducible repeat (first | apply Kd.R_alloc | apply Kd.R_drewN | apply Kd.R_drew)); exact HO280.out) hb); have n1_ := Aside0.mk (below_step (by repeat (first | (with_reducible first | exact HB.out | apply below_alloc | apply pw_below_drewN | apply below_drew1) | exact HB.out)) hb); have n2_ := Aside0.mk (hbox); have n3_ := Aside0.mk ((by rw [hg]; exact (below_size (by repeat (first | (with_reducible first | exact HB.out | apply below_alloc | apply pw_below_drewN | apply below_drew1) | exact HB.out))) : w.heap.size ≤ gb284)); have n4_ := Aside0.mk ((by rw [hg]; exact (below_size (by repeat (first | (with_reducible first | exact HB.out | apply below_alloc | apply pw_below_drewN | apply below_drew1) | exact HB.out))) : w.heap.size ≤ gb284)); clear HO280; clear HB; have HO280 := n0_; have HB := n1_; have BK284 := n2_; have GW284 := n3_; have GE284 := n4_; clear n0_ n1_ n2_ n3_ n4_; clear hb hbox hg; have hcz20_0 : w19.cell? ⟨gb284, 0, none⟩ = some (.int .i64 0) := (blk_cell BK284.out 0).trans rfl; have hcz20_1 : w19.cell? ⟨gb284, 1, none⟩ = some (.int .u64 0) := (blk_cell BK284.out 1).trans rfl; have hfz20_0 := blk_frozen BK284.out 0; have hfz20_1 := blk_frozen BK284.out 1))
  go_ret2
  exact ⟨_, by first | rfl | (simp [errW_none, errW_some] <;> rfl) | (simp [*, errW_none, errW_some] <;> rfl), by first | exact Kd.R_nil _ _ _ _ _ | exact Kd.N_nil _ _ _ _ _ | exact Kd.V_nil _ _ _ _ _ | exact Kd.Q_nil _ _ _ _ _ | exact Kd.S_nil _ _ _ _ _, by repeat (first | (with_reducible first | exact HB.out | apply below_alloc | apply pw_below_drewN | apply below_drew1 | refine below_set ?_ GE284.out) | exact HB.out)⟩
 subst c8
 have H1 : (some ((([(⟨t281, t282⟩ : S30)] : List (S30))), 0)) = some (r1, r2) := by rw [if_pos rfl] at H; exact H
 clear H
 have H := H1
 clear H1
 obtain ⟨y285, hy285⟩ : ∃ y_ : List (S30), y_ = (([(⟨t281, t282⟩ : S30)] : List (S30))) := ⟨_, rfl⟩
 replace H : (some (y285, 0)) = some (r1, r2) := by first | (rw [hy285]; with_reducible exact H) | (have H2_ := (Option.bind_some _ _).symm.trans H; rw [hy285]; with_reducible exact H2_) | (have H2_ := (Option.bind_some _ _).symm.trans H; with_reducible exact H2_) | with_reducible exact H | (rw [hy285]; exact H) | exact H
 have Ny285 := Aside0.mk hy285
 clear hy285
 simp only [Option.some.injEq, Prod.mk.injEq] at H
 obtain ⟨rfl, rfl⟩ := H
 go_enter Try.func46, Try.ntmps46
 go_wp2_with (first | ((with_reducible refine gate_callee (f := 73) rfl ?_); refine goesL_ (some 13) rfl rfl Try.func73 (by kernel_rfl) rfl #[.slice A0 l0.length c0, .int .i64 a1] rfl (by (try simp only [List.map_toArray, List.map_cons, List.map_nil]); first | done | rfl | (simp only [List.length_drop, List.length_take]; rfl)) ?_; (with_reducible refine (image_find.calls k _ _ l0 a1 t277 t278 _ ?side1 ?side2 A3.out).mono ?_); (case side1 => repeat (first | exact HR0.out | (with_reducible refine Kd.C_alloc ?_ _) | (with_reducible refine Kd.C_drewN ?_ _) | (with_reducible refine Kd.C_drew ?_))); (case side2 => exact HC0.out); rintro e w9 ⟨v279, rfl, ho0, hb⟩; refine ⟨_, rfl, ?_⟩; have n0_ := Aside0.mk (Kd.R_lower ho0 (below_size (by repeat (first | (with_reducible first | exact HB.out | apply below_alloc | apply pw_below_drewN | apply below_drew1) | exact HB.out)))); have n1_ := Aside0.mk (below_step (by repeat (first | (with_reducible first | exact HB.out | apply below_alloc | apply pw_below_drewN | apply below_drew1) | exact HB.out)) hb); clear HB; have HO280 := n0_; have HB := n1_; clear n0_ n1_; (try clear hb); (try clear hb2); (try clear hk); (try clear hi); (try clear ho0); obtain ⟨Ao10, co10, eo10⟩ := Kd.R_slice HO280.out; subst eo10) | ((with_reducible refine gate_callee (f := 18) rfl ?_); refine goesL_ (some 22) rfl rfl Try.func18 (by kernel_rfl) rfl #[.slice Ao10 t277.length co10, .int .i64 t278] rfl (by (try simp only [List.map_toArray, List.map_cons, List.map_nil]); first | done | rfl | (simp only [List.length_drop, List.length_take]; rfl)) ?_; (with_reducible refine (merge_Edit.calls k _ _ t277 t278 t281 t282 true _ ?side1 ?side2 A7.out).mono ?_); (case side1 => repeat (first | exact (Kd.R_reads' HO280.out).2.2 | (with_reducible refine Kd.C_alloc ?_ _) | (with_reducible refine Kd.C_drewN ?_ _) | (with_reducible refine Kd.C_drew ?_))); (case side2 => exact (Kd.R_reads' HO280.out).2.1); rintro e w11 ⟨rfl, hb⟩; refine ⟨_, rfl, ?_⟩; have n0_ := Aside0.mk (Kd.R_below (by (with_reducible repeat (first | apply Kd.R_alloc | apply Kd.R_drewN | apply Kd.R_drew)); exact HO280.out) hb); have n1_ := Aside0.mk (below_step (by repeat (first | (with_reducible first | exact HB.out | apply below_alloc | apply pw_below_drewN | apply below_drew1) | exact HB.out)) hb); clear HO280; clear HB; have HO280 := n0_; have HB := n1_; clear n0_ n1_; (try clear hb); (try clear hb2); (try clear hk); (try clear hi)) | ((with_reducible refine gate_dst (N := 8) rfl ?_); refine box_event ?hg (N := 8) ?hd (cs := #[.int .i64 0, .int .u64 0]) (t := 30) ?hr ?_; (case hd => rfl); (case hg => rfl); (case hr => first | (go_simp; done) | (go_simp; rfl)); intro gb284 hg w12 hbox hb; have n0_ := Aside0.mk (Kd.R_below (by (with_reducible repeat (first | apply Kd.R_alloc | apply Kd.R_drewN | apply Kd.R_drew)); exact HO280.out) hb); have n1_ := Aside0.mk (below_step (by repeat (first | (with_reducible first | exact HB.out | apply below_alloc | apply pw_below_drewN | apply below_drew1) | exact HB.out)) hb); have n2_ := Aside0.mk (hbox); have n3_ := Aside0.mk ((by rw [hg]; exact (below_size (by repeat (first | (with_reducible first | exact HB.out | apply below_alloc | apply pw_below_drewN | apply below_drew1) | exact HB.out))) : w.heap.size ≤ gb284)); have n4_ := Aside0.mk ((by rw [hg]; exact (below_size (by repeat (first | (with_reducible first | exact HB.out | apply below_alloc | apply pw_below_drewN | apply below_drew1) | exact HB.out))) : w.heap.size ≤ gb284)); clear HO280; clear HB; have HO280 := n0_; have HB := n1_; have BK284 := n2_; have GW284 := n3_; have GE284 := n4_; clear n0_ n1_ n2_ n3_ n4_; clear hb hbox hg; have hcz13_0 : w12.cell? ⟨gb284, 0, none⟩ = some (.int .i64 0) := (blk_cell BK284.out 0).trans rfl; have hcz13_1 : w12.cell? ⟨gb284, 1, none⟩ = some (.int .u64 0) := (blk_cell BK284.out 1).trans rfl; have hfz13_0 := blk_frozen BK284.out 0; have hfz13_1 := blk_frozen BK284.out 1) | ((with_reducible refine gate_dst (N := 28) rfl ?_); refine Kd.R_lit k30 _ 30 ?hg (N := 28) ?hd (xs := ([(⟨t281, t282⟩ : S30)] : List (S30))) (inner := [.int .i64 t281, .int .u64 t282]) (ok := fun _ => True) (okp := fun _ => True) ?hr ?hp (fun _ hk => hk) trivial (Below.refl _ _) (Nat.le_refl _) (by simp) ?_; (case hd => rfl); (case hg => rfl); (case hr => first | (go_simp; done) | (go_simp; rfl)); (case hp => exact (Reps.c2 (show Kd.M k30 _ _ _ (⟨t281, t282⟩ : S30) [.int .i64 t281, .int .u64 t282] from (k30_mkM _ _ _ (⟨t281, t282⟩ : S30) )) (Reps.none _ _))); intro v286 w14 ho15 hb hg_ hnew_; clear hg_ hnew_; (first | rw [← Ny285.out] at ho15 | (simp only [Int.reduceToNat] at ho15; rw [← Ny285.out] at ho15)); have n0_ := Aside0.mk (Kd.R_below (by (with_reducible repeat (first | apply Kd.R_alloc | apply Kd.R_drewN | apply Kd.R_drew)); exact (Kd.R_mono (Kd.R_far (p := ⟨gb284, 1, none⟩) (Kd.R_far (p := ⟨gb284, 0, none⟩) (Kd.R_types HO280.out BK284.out (by decide)) (fun _ hk => hk.2) (.int .i64 t281)) (fun _ hk => hk.2) (.int .u64 t282)) (fun _ h_ => h_.1))) hb); have n1_ := Aside0.mk (Kd.R_lower (Kd.R_newB ho15 (g := gb284) (o := .cells #[.int .i64 t281, .int .u64 t282] 30 (0, 0)) (by (with_reducible repeat (first | refine blk_drewN ?_ _ | refine blk_drew ?_ | refine blk_alloc ?_ _)); refine blk_put (cs := #[.int .i64 t281, .int .u64 0]) ?_ 1 _ rfl; (with_reducible repeat (first | refine blk_drewN ?_ _ | refine blk_drew ?_ | refine blk_alloc ?_ _)); refine blk_put (cs := #[.int .i64 0, .int .u64 0]) ?_ 0 _ rfl; (with_reducible repeat (first | refine blk_drewN ?_ _ | refine blk_drew ?_ | refine blk_alloc ?_ _)); exact BK284.out)) (below_size (by repeat (first | (with_reducible first | exact HB.out | apply below_alloc | apply pw_below_drewN | apply below_drew1 | refine below_set ?_ GE284.out) | exact HB.out)))); have n2_ := Aside0.mk (blk_below (g := gb284) (o := .cells #[.int .i64 t281, .int .u64 t282] 30 (0, 0)) (by (with_reducible repeat (first | refine blk_drewN ?_ _ | refine blk_drew ?_ | refine blk_alloc ?_ _)); refine blk_put (cs := #[.int .i64 t281, .int .u64 0]) ?_ 1 _ rfl; (with_reducible repeat (first | refine blk_drewN ?_ _ | refine blk_drew ?_ | refine blk_alloc ?_ _)); refine blk_put (cs := #[.int .i64 0, .int .u64 0]) ?_ 0 _ rfl; (with_reducible repeat (first | refine blk_drewN ?_ _ | refine blk_drew ?_ | refine blk_alloc ?_ _)); exact BK284.out) hb); have n3_ := Aside0.mk (below_step (by repeat (first | (with_reducible first | exact HB.out | apply below_alloc | apply pw_below_drewN | apply below_drew1 | refine below_set ?_ GE284.out) | exact HB.out)) hb); clear HO280; clear BK284; clear HB; have HO280 := n0_; have HO287 := n1_; have BK284 := n2_; have HB := n3_; clear n0_ n1_ n2_ n3_; clear hb ho15))
 go_ret2
 exact ⟨_, by first | rfl | (simp [errW_none, errW_some] <;> rfl) | (simp [*, errW_none, errW_some] <;> rfl), by (with_reducible repeat (first | apply Kd.R_alloc | apply Kd.R_drewN | apply Kd.R_drew)); exact Kd.R_mono HO287.out (fun _ hk => trivial), by repeat (first | (with_reducible first | exact HB.out | apply below_alloc | apply pw_below_drewN | apply below_drew1 | refine below_set ?_ GE284.out) | exact HB.out)⟩

end Go.Proofs.Ytglekonhdjploaa.XImageKeeps
