-- printed by wip/xprint.py
import Derived.Test.YtglekonhdjploaaXImageFormsx0
import Derived.Test.YtglekonhdjploaaXImageFormsx12
import Derived.Test.YtglekonhdjploaaXImageFormsx13
namespace Go.Proofs.Ytglekonhdjploaa.XImageForms
open Go.RowKit Go.Proofs.YtglekonhdjploaaW.PrintWords Go.Proofs.YtglekonhdjploaaW.PrintLast Go.Proofs.YtglekonhdjploaaW.PrintMore
attribute [local go_sem] max2_int min2_int max_two min_two max_three min_three max_four min_four
set_option linter.unusedVariables false
set_option linter.unusedSimpArgs false

/-! ### darningref4_Carved: function 24 -/
def darningref4_Carved.j0 : Nat → List (S35) → Int → Int → Bool → Option ((List (S35)) × Bool)
 | 0, _, _, _, _ => none
 | k + 1, x0, x1, x2, x41 => if x41 = true then (some (([] : List (S35)), false)) else (if 0 ≤ x1 then (if x1 < (x0.length : Int) then ((darningref4_Takes.f k ((rd_T35 x0 x1).f1) x2).bind fun t266 => (if x1 ≤ (x0.length : Int) then ((some (x0.take (x1 : Int).toNat : List (S35))).bind fun y267 => (if ([] : List (S35)).length + y267.length < 5864062014805 then ((some (([] : List (S35)) ++ y267 : List (S35))).bind fun y271 => ((some (([(⟨(rd_T35 x0 x1).f0, t266, true⟩ : S35)] : List (S35)) : List (S35))).bind fun y275 => (if y271.length + y275.length < 5864062014805 then ((some (y271 ++ y275 : List (S35))).bind fun y278 => (if t266 < ((rd_T35 x0 x1).f1) then ((some (([(⟨wrap64 (((rd_T35 x0 x1).f0) + t266), wrap64 (((rd_T35 x0 x1).f1) - t266), false⟩ : S35)] : List (S35)) : List (S35))).bind fun y284 => (if y278.length + y284.length < 5864062014805 then ((some (y278 ++ y284 : List (S35))).bind fun y287 => (if 0 ≤ (wrap64 (x1 + 1)) then (if (wrap64 (x1 + 1)) ≤ (x0.length : Int) then ((some (x0.drop ((wrap64 (x1 + 1)) : Int).toNat : List (S35))).bind fun y290 => (if y287.length + y290.length < 5864062014805 then (some ((y287 ++ y290), true)) else (none))) else (none)) else (none))) else (none))) else (if 0 ≤ (wrap64 (x1 + 1)) then (if (wrap64 (x1 + 1)) ≤ (x0.length : Int) then ((some (x0.drop ((wrap64 (x1 + 1)) : Int).toNat : List (S35))).bind fun y297 => (if y278.length + y297.length < 5864062014805 then (some ((y278 ++ y297), true)) else (none))) else (none)) else (none)))) else (none)))) else (none))) else (none))) else (none)) else (none))
def darningref4_Carved.f (k : Nat) (l0 : List (S35)) (a1 : Int) (a2 : Int) : Option ((List (S35)) × Bool) := (darningref4_sizes.f k l0).bind fun t260 => ((darningref4_MayBlocks.f k l0 t260).bind fun t261 => (if t261 = true then (if a1 < 0 then (darningref4_Carved.j0 k l0 a1 a2 true) else (if a1 ≥ (l0.length : Int) then (darningref4_Carved.j0 k l0 a1 a2 true) else (if 0 ≤ a1 then (if a1 < (l0.length : Int) then (if (rd_T35 l0 a1).f2 = true then (darningref4_Carved.j0 k l0 a1 a2 true) else ((darningref4_Takes.f k ((rd_T35 l0 a1).f1) a2).bind fun t264 => (darningref4_Carved.j0 k l0 a1 a2 (t264 == 0)))) else (none)) else (none)))) else (darningref4_Carved.j0 k l0 a1 a2 true)))
theorem darningref4_Carved.mono_l : ∀ k, (∀ y0 y1 y2 y3, LeO (darningref4_Carved.j0 k y0 y1 y2 y3) (darningref4_Carved.j0 (k + 1) y0 y1 y2 y3))
 | 0 => fun _ _ _ _ r h => by simp [darningref4_Carved.j0] at h
 | k + 1 => by
  have ih0 := darningref4_Carved.mono_l k
  ·
   intro y0 y1 y2 y3
   unfold darningref4_Carved.j0
   repeat' first
   | (with_reducible exact ih0 _ _ _ _)
   | (with_reducible exact darningref4_MayBlocks.mono _ _ _)
   | (with_reducible exact darningref4_Takes.mono _ _ _)
   | (with_reducible exact darningref4_sizes.mono _ _)
   | (with_reducible exact LeO.refl _)
   | (with_reducible exact LeO.none _)
   | (with_reducible refine LeO.ite ?_ ?_)
   | (with_reducible refine LeO.bind ?_ (fun _ => ?_))
   | exact ih0 _ _ _ _
   | exact darningref4_MayBlocks.mono _ _ _
   | exact darningref4_Takes.mono _ _ _
   | exact darningref4_sizes.mono _ _
   | exact LeO.none _
   | refine LeO.ite ?_ ?_
   | refine LeO.bind ?_ (fun _ => ?_)
theorem darningref4_Carved.mono : ∀ a0 a1 a2 k, LeO (darningref4_Carved.f k a0 a1 a2) (darningref4_Carved.f (k + 1) a0 a1 a2) := by
 intro a0 a1 a2 k
 have ih0 := darningref4_Carved.mono_l k
 unfold darningref4_Carved.f
 repeat' first
   | (with_reducible exact ih0 _ _ _ _)
   | (with_reducible exact darningref4_MayBlocks.mono _ _ _)
   | (with_reducible exact darningref4_Takes.mono _ _ _)
   | (with_reducible exact darningref4_sizes.mono _ _)
   | (with_reducible exact LeO.refl _)
   | (with_reducible exact LeO.none _)
   | (with_reducible refine LeO.ite ?_ ?_)
   | (with_reducible refine LeO.bind ?_ (fun _ => ?_))
   | exact ih0 _ _ _ _
   | exact darningref4_MayBlocks.mono _ _ _
   | exact darningref4_Takes.mono _ _ _
   | exact darningref4_sizes.mono _ _
   | exact LeO.none _
   | refine LeO.ite ?_ ?_
   | refine LeO.bind ?_ (fun _ => ?_)
def darningref4_Carved.T4 : Bool × List (List Nat × List Nat) := (true, [([], []), ([], []), ([0, 1], [0, 1]), ([2], [2]), ([], []), ([], []), ([4, 5], [4, 5]), ([6], [6]), ([7], [7]), ([], []), ([8, 9], [8, 9]), ([10], [10]), ([3, 11, 3], [3, 11]), ([12, 12, 0, 1, 2, 3, 4, 5, 6, 7, 8, 9, 10, 11, 12], [12])])
def darningref4_Carved.B4 : List Nat := [0, 0, 3, 7, 0, 0, 48, 112, 240, 0, 1008, 2032, 4095, 8191]
theorem darningref4_Carved.tab4 : rtab .any (opsOf Try.f24 4) = darningref4_Carved.T4 := by kernel_rfl
theorem darningref4_Carved.bits4 : waitsOk darningref4_Carved.T4.2 darningref4_Carved.B4 = true := by kernel_rfl
def darningref4_Carved.T6 : Bool × List (List Nat × List Nat) := (true, [([], []), ([], []), ([], []), ([1, 2], [1, 2]), ([3], [3]), ([4], [4]), ([], []), ([5, 6], [5, 6]), ([], []), ([], []), ([8, 9], [8, 9]), ([10], [10]), ([11], [11]), ([], []), ([12, 13], [12, 13]), ([7, 14], [7, 14]), ([15], [15]), ([0, 16], [0, 16]), ([17, 17, 0, 1, 2, 3, 4, 5, 6, 7, 8, 9, 10, 11, 12, 13, 14, 15, 16, 17], [0, 17])])
def darningref4_Carved.B6 : List Nat := [0, 0, 0, 6, 14, 30, 0, 126, 0, 0, 768, 1792, 3840, 0, 16128, 32766, 65534, 131071, 262143]
theorem darningref4_Carved.tab6 : rtab .any (opsOf Try.f24 6) = darningref4_Carved.T6 := by kernel_rfl
theorem darningref4_Carved.bits6 : waitsOk darningref4_Carved.T6.2 darningref4_Carved.B6 = true := by kernel_rfl
set_option maxHeartbeats 8000000 in
set_option maxRecDepth 100000 in
theorem darningref4_Carved.calls (k : Nat) (A0 : Option Addr) (c0 : Nat) (l0 : List (S35)) (a1 : Int) (a2 : Int) (r1 : List (S35)) (r2 : Bool) (w : World) (hr0 : Kd.C k35 w A0 l0.length l0) (hc0 : l0.length ≤ c0) (h : darningref4_Carved.f k l0 a1 a2 = some (r1, r2)) :
  Calls Try.prog 24 #[.slice A0 l0.length c0, .int .i64 a1, .int .i64 a2] w fun e w' => ∃ v0_ : Value, e = .returned (.tuple #[v0_, .bool r2]) ∧ Kd.R k35 35 w' w.heap.size (fun _ => True) v0_ r1 ∧ Below w.heap.size w w' := by
 have hu35 := Try.underlying35
 have HR0 := Aside0.mk hr0
 have HC0 := Aside0.mk hc0
 clear hr0 hc0
 have HB := Aside0.mk (Below.refl w.heap.size w)
 have H : ((darningref4_sizes.f k l0).bind fun t260 => ((darningref4_MayBlocks.f k l0 t260).bind fun t261 => (if t261 = true then (if a1 < 0 then (darningref4_Carved.j0 k l0 a1 a2 true) else (if a1 ≥ (l0.length : Int) then (darningref4_Carved.j0 k l0 a1 a2 true) else (if 0 ≤ a1 then (if a1 < (l0.length : Int) then (if (rd_T35 l0 a1).f2 = true then (darningref4_Carved.j0 k l0 a1 a2 true) else ((darningref4_Takes.f k ((rd_T35 l0 a1).f1) a2).bind fun t264 => (darningref4_Carved.j0 k l0 a1 a2 (t264 == 0)))) else (none)) else (none)))) else (darningref4_Carved.j0 k l0 a1 a2 true)))) = some (r1, r2) := h
 clear h
 have HC4 := Aside0.mk H
 clear H
 go_enter Try.func24, Try.ntmps24
 go_upto_region 1 with (fail)
 go_cut [41] (fun v41 wc => ∃ (kq : Nat) (x41_3 : Bool), v41 = .bool x41_3 ∧ Aside0 (darningref4_Carved.j0 kq l0 a1 a2 x41_3 = some (r1, r2)) ∧ Aside0 (kq ≤ k) ∧ Aside0 (Below w.heap.size w wc))
 case first =>
  have H := HC4.out
  clear HC4
  replace H := Option.bind_eq_some_iff.mp H
  obtain ⟨t260, A50, H⟩ := H
  replace H : ((darningref4_MayBlocks.f k l0 t260).bind fun t261 => (if t261 = true then (if a1 < 0 then (darningref4_Carved.j0 k l0 a1 a2 true) else (if a1 ≥ (l0.length : Int) then (darningref4_Carved.j0 k l0 a1 a2 true) else (if 0 ≤ a1 then (if a1 < (l0.length : Int) then (if (rd_T35 l0 a1).f2 = true then (darningref4_Carved.j0 k l0 a1 a2 true) else ((darningref4_Takes.f k ((rd_T35 l0 a1).f1) a2).bind fun t264 => (darningref4_Carved.j0 k l0 a1 a2 (t264 == 0)))) else (none)) else (none)))) else (darningref4_Carved.j0 k l0 a1 a2 true))) = some (r1, r2) := H
  have A5 := Aside0.mk A50
  clear A50
  replace H := Option.bind_eq_some_iff.mp H
  obtain ⟨t261, A60, H⟩ := H
  replace H : (if t261 = true then (if a1 < 0 then (darningref4_Carved.j0 k l0 a1 a2 true) else (if a1 ≥ (l0.length : Int) then (darningref4_Carved.j0 k l0 a1 a2 true) else (if 0 ≤ a1 then (if a1 < (l0.length : Int) then (if (rd_T35 l0 a1).f2 = true then (darningref4_Carved.j0 k l0 a1 a2 true) else ((darningref4_Takes.f k ((rd_T35 l0 a1).f1) a2).bind fun t264 => (darningref4_Carved.j0 k l0 a1 a2 (t264 == 0)))) else (none)) else (none)))) else (darningref4_Carved.j0 k l0 a1 a2 true)) = some (r1, r2) := H
  have A6 := Aside0.mk A60
  clear A60
  by_cases c7 : t261 = true
  rotate_left
  ·
   replace c7 := Bool.eq_false_iff.mpr c7
   subst c7
   have H1 : (darningref4_Carved.j0 k l0 a1 a2 true) = some (r1, r2) := by rw [if_neg (show ¬ (false = true) by decide)] at H; exact H
   clear H
   have H := H1
   clear H1
   have H' := Aside0.mk H
   clear H
   go_wp2_with (first | ((with_reducible refine gate_callee (f := 60) rfl ?_); refine goesL_ (some 12) rfl rfl Try.func60 (by kernel_rfl) rfl #[.slice A0 l0.length c0] rfl (by (try simp only [qj, qk, ql]); first | done | rfl | (simp only [qm, qn]; rfl)) ?_; (with_reducible refine (darningref4_sizes.calls k _ _ l0 t260 _ ?side1 ?side2 A5.out).mono ?_); (case side1 => exact zc (Kd.C_below HR0.out HB.out)); (case side2 => exact HC0.out); rintro e w23 ⟨rfl, hb⟩; refine ⟨_, rfl, ?_⟩; have n0_ := zb HB hb; replace HB := n0_; clear n0_; (try clear hb)) | ((with_reducible refine gate_callee (f := 21) rfl ?_); refine goesL_ (some 13) rfl rfl Try.func21 (by kernel_rfl) rfl #[.slice A0 l0.length c0, .int .i64 t260] rfl (by (try simp only [qj, qk, ql]); first | done | rfl | (simp only [qm, qn]; rfl)) ?_; (with_reducible refine (darningref4_MayBlocks.calls k _ _ l0 t260 false _ ?side1 ?side2 A6.out).mono ?_); (case side1 => exact zc (Kd.C_below HR0.out HB.out)); (case side2 => exact HC0.out); rintro e w24 ⟨rfl, hb⟩; refine ⟨_, rfl, ?_⟩; have n0_ := zb HB hb; replace HB := n0_; clear n0_; (try clear hb)))
   go_meet
   case rel => exact ⟨_, (true), (by first | rfl | (simp; done) | (simp [*]; done)), H', ⟨by first | omega | exact Nat.le_refl _⟩, ⟨zB HB⟩⟩
  subst c7
  have H1 : (if a1 < 0 then (darningref4_Carved.j0 k l0 a1 a2 true) else (if a1 ≥ (l0.length : Int) then (darningref4_Carved.j0 k l0 a1 a2 true) else (if 0 ≤ a1 then (if a1 < (l0.length : Int) then (if (rd_T35 l0 a1).f2 = true then (darningref4_Carved.j0 k l0 a1 a2 true) else ((darningref4_Takes.f k ((rd_T35 l0 a1).f1) a2).bind fun t264 => (darningref4_Carved.j0 k l0 a1 a2 (t264 == 0)))) else (none)) else (none)))) = some (r1, r2) := by rw [if_pos rfl] at H; exact H
  clear H
  have H := H1
  clear H1
  by_cases c8 : a1 < 0
  ·
   rw [if_pos c8] at H
   have c8b0 : decide (a1 < 0) = true := decide_eq_true c8
   clear c8
   (first | rw [c8b0] | (simp only [i64_w, i32_w]; rw [c8b0]) | skip)
   have H' := Aside0.mk H
   clear H
   go_wp2_with (first | ((with_reducible refine gate_callee (f := 60) rfl ?_); refine goesL_ (some 12) rfl rfl Try.func60 (by kernel_rfl) rfl #[.slice A0 l0.length c0] rfl (by (try simp only [qj, qk, ql]); first | done | rfl | (simp only [qm, qn]; rfl)) ?_; (with_reducible refine (darningref4_sizes.calls k _ _ l0 t260 _ ?side1 ?side2 A5.out).mono ?_); (case side1 => exact zc (Kd.C_below HR0.out HB.out)); (case side2 => exact HC0.out); rintro e w9 ⟨rfl, hb⟩; refine ⟨_, rfl, ?_⟩; have n0_ := zb HB hb; replace HB := n0_; clear n0_; (try clear hb)) | ((with_reducible refine gate_callee (f := 21) rfl ?_); refine goesL_ (some 13) rfl rfl Try.func21 (by kernel_rfl) rfl #[.slice A0 l0.length c0, .int .i64 t260] rfl (by (try simp only [qj, qk, ql]); first | done | rfl | (simp only [qm, qn]; rfl)) ?_; (with_reducible refine (darningref4_MayBlocks.calls k _ _ l0 t260 true _ ?side1 ?side2 A6.out).mono ?_); (case side1 => exact zc (Kd.C_below HR0.out HB.out)); (case side2 => exact HC0.out); rintro e w10 ⟨rfl, hb⟩; refine ⟨_, rfl, ?_⟩; have n0_ := zb HB hb; replace HB := n0_; clear n0_; (try clear hb)))
   go_meet
   case rel => exact ⟨_, (true), (by first | rfl | (simp; done) | (simp [*]; done)), H', ⟨by first | omega | exact Nat.le_refl _⟩, ⟨zB HB⟩⟩
  rw [if_neg c8] at H
  have c8b0 : decide (a1 < 0) = false := decide_eq_false c8
  clear c8
  (first | rw [c8b0] | (simp only [i64_w, i32_w]; rw [c8b0]) | skip)
  by_cases c11 : a1 ≥ (l0.length : Int)
  ·
   rw [if_pos c11] at H
   have c11b0 : decide ((l0.length : Int) ≤ a1) = true := decide_eq_true c11
   clear c11
   have H' := Aside0.mk H
   clear H
   go_wp2_with (first | ((with_reducible refine gate_callee (f := 60) rfl ?_); refine goesL_ (some 12) rfl rfl Try.func60 (by kernel_rfl) rfl #[.slice A0 l0.length c0] rfl (by (try simp only [qj, qk, ql]); first | done | rfl | (simp only [qm, qn]; rfl)) ?_; (with_reducible refine (darningref4_sizes.calls k _ _ l0 t260 _ ?side1 ?side2 A5.out).mono ?_); (case side1 => exact zc (Kd.C_below HR0.out HB.out)); (case side2 => exact HC0.out); rintro e w12 ⟨rfl, hb⟩; refine ⟨_, rfl, ?_⟩; have n0_ := zb HB hb; replace HB := n0_; clear n0_; (try clear hb)) | ((with_reducible refine gate_callee (f := 21) rfl ?_); refine goesL_ (some 13) rfl rfl Try.func21 (by kernel_rfl) rfl #[.slice A0 l0.length c0, .int .i64 t260] rfl (by (try simp only [qj, qk, ql]); first | done | rfl | (simp only [qm, qn]; rfl)) ?_; (with_reducible refine (darningref4_MayBlocks.calls k _ _ l0 t260 true _ ?side1 ?side2 A6.out).mono ?_); (case side1 => exact zc (Kd.C_below HR0.out HB.out)); (case side2 => exact HC0.out); rintro e w13 ⟨rfl, hb⟩; refine ⟨_, rfl, ?_⟩; have n0_ := zb HB hb; replace HB := n0_; clear n0_; (try clear hb)))
   go_meet
   case rel => exact ⟨_, (true), (by first | rfl | (simp; done) | (simp [*]; done)), H', ⟨by first | omega | exact Nat.le_refl _⟩, ⟨zB HB⟩⟩
  rw [if_neg c11] at H
  have c11b0 : decide ((l0.length : Int) ≤ a1) = false := decide_eq_false c11
  clear c11
  by_cases c14 : 0 ≤ a1
  rotate_left
  ·
   rw [if_neg c14] at H
   exact absurd H (by simp)
  rw [if_pos c14] at H
  have c14b0 : decide (0 ≤ a1) = true := decide_eq_true c14
  clear c14
  by_cases c15 : a1 < (l0.length : Int)
  rotate_left
  ·
   rw [if_neg c15] at H
   exact absurd H (by simp)
  rw [if_pos c15] at H
  have c15b0 : decide (a1 < (l0.length : Int)) = true := decide_eq_true c15
  clear c15
  obtain ⟨bq16, hbq16⟩ : ∃ b_ : Bool, b_ = ((rd_T35 l0 a1).f2) := ⟨_, rfl⟩
  replace H : (if bq16 = true then (darningref4_Carved.j0 k l0 a1 a2 true) else ((darningref4_Takes.f k ((rd_T35 l0 a1).f1) a2).bind fun t264 => (darningref4_Carved.j0 k l0 a1 a2 (t264 == 0)))) = some (r1, r2) := by first | exact H | (rw [← hbq16] at H; exact H)
  have Nbq16 := Aside0.mk hbq16
  clear hbq16
  (try rw [← Nbq16.out])
  by_cases c17 : bq16 = true
  ·
   subst c17
   have H1 : (darningref4_Carved.j0 k l0 a1 a2 true) = some (r1, r2) := by rw [if_pos rfl] at H; exact H
   clear H
   have H := H1
   clear H1
   have H' := Aside0.mk H
   clear H
   go_wp2_with (first | ((with_reducible refine gate_callee (f := 60) rfl ?_); refine goesL_ (some 12) rfl rfl Try.func60 (by kernel_rfl) rfl #[.slice A0 l0.length c0] rfl (by (try simp only [qj, qk, ql]); first | done | rfl | (simp only [qm, qn]; rfl)) ?_; (with_reducible refine (darningref4_sizes.calls k _ _ l0 t260 _ ?side1 ?side2 A5.out).mono ?_); (case side1 => exact zc (Kd.C_below HR0.out HB.out)); (case side2 => exact HC0.out); rintro e w18 ⟨rfl, hb⟩; refine ⟨_, rfl, ?_⟩; have n0_ := zb HB hb; replace HB := n0_; clear n0_; (try clear hb)) | ((with_reducible refine gate_callee (f := 21) rfl ?_); refine goesL_ (some 13) rfl rfl Try.func21 (by kernel_rfl) rfl #[.slice A0 l0.length c0, .int .i64 t260] rfl (by (try simp only [qj, qk, ql]); first | done | rfl | (simp only [qm, qn]; rfl)) ?_; (with_reducible refine (darningref4_MayBlocks.calls k _ _ l0 t260 true _ ?side1 ?side2 A6.out).mono ?_); (case side1 => exact zc (Kd.C_below HR0.out HB.out)); (case side2 => exact HC0.out); rintro e w19 ⟨rfl, hb⟩; refine ⟨_, rfl, ?_⟩; have n0_ := zb HB hb; replace HB := n0_; clear n0_; (try clear hb); have p262 : 0 ≤ (a1 : Int) := zu; have q262 : a1 < (l0.length : Int) := zu; obtain ⟨ad262, e262, hx262_0, hx262_1, hx262_2⟩ := at_T35 HR0.out a1 p262 q262; (try rw [← Nbq16.out] at hx262_2); cases e262; replace hx262_0 := zw HB hx262_0; replace hx262_1 := zw HB hx262_1; replace hx262_2 := zw HB hx262_2; replace p262 := eq_true p262; replace q262 := eq_true q262))
   go_meet
   case rel => (try simp only [← Nbq16.out]); exact ⟨_, (true), (by first | rfl | (simp; done) | (simp [*]; done)), H', ⟨by first | omega | exact Nat.le_refl _⟩, ⟨zB HB⟩⟩
  replace c17 := Bool.eq_false_iff.mpr c17
  subst c17
  have H1 : ((darningref4_Takes.f k ((rd_T35 l0 a1).f1) a2).bind fun t264 => (darningref4_Carved.j0 k l0 a1 a2 (t264 == 0))) = some (r1, r2) := by rw [if_neg (show ¬ (false = true) by decide)] at H; exact H
  clear H
  have H := H1
  clear H1
  replace H := Option.bind_eq_some_iff.mp H
  obtain ⟨t264, A200, H⟩ := H
  replace H : (darningref4_Carved.j0 k l0 a1 a2 (t264 == 0)) = some (r1, r2) := H
  have A20 := Aside0.mk A200
  clear A200
  have H' := Aside0.mk H
  clear H
  go_wp2_with (first | ((with_reducible refine gate_callee (f := 60) rfl ?_); refine goesL_ (some 12) rfl rfl Try.func60 (by kernel_rfl) rfl #[.slice A0 l0.length c0] rfl (by (try simp only [qj, qk, ql]); first | done | rfl | (simp only [qm, qn]; rfl)) ?_; (with_reducible refine (darningref4_sizes.calls k _ _ l0 t260 _ ?side1 ?side2 A5.out).mono ?_); (case side1 => exact zc (Kd.C_below HR0.out HB.out)); (case side2 => exact HC0.out); rintro e w21 ⟨rfl, hb⟩; refine ⟨_, rfl, ?_⟩; have n0_ := zb HB hb; replace HB := n0_; clear n0_; (try clear hb)) | ((with_reducible refine gate_callee (f := 21) rfl ?_); refine goesL_ (some 13) rfl rfl Try.func21 (by kernel_rfl) rfl #[.slice A0 l0.length c0, .int .i64 t260] rfl (by (try simp only [qj, qk, ql]); first | done | rfl | (simp only [qm, qn]; rfl)) ?_; (with_reducible refine (darningref4_MayBlocks.calls k _ _ l0 t260 true _ ?side1 ?side2 A6.out).mono ?_); (case side1 => exact zc (Kd.C_below HR0.out HB.out)); (case side2 => exact HC0.out); rintro e w22 ⟨rfl, hb⟩; refine ⟨_, rfl, ?_⟩; have n0_ := zb HB hb; replace HB := n0_; clear n0_; (try clear hb); have p262 : 0 ≤ (a1 : Int) := zu; have q262 : a1 < (l0.length : Int) := zu; obtain ⟨ad262, e262, hx262_0, hx262_1, hx262_2⟩ := at_T35 HR0.out a1 p262 q262; (try rw [← Nbq16.out] at hx262_2); cases e262; replace hx262_0 := zw HB hx262_0; replace hx262_1 := zw HB hx262_1; replace hx262_2 := zw HB hx262_2; replace p262 := eq_true p262; replace q262 := eq_true q262; have p263 : 0 ≤ (a1 : Int) := zu; have q263 : a1 < (l0.length : Int) := zu; obtain ⟨ad263, e263, hx263_0, hx263_1, hx263_2⟩ := at_T35 HR0.out a1 p263 q263; (try rw [← Nbq16.out] at hx263_2); obtain rfl : ad262 = ad263 := (by injection e263); replace hx263_0 := zw HB hx263_0; replace hx263_1 := zw HB hx263_1; replace hx263_2 := zw HB hx263_2; replace p263 := eq_true p263; replace q263 := eq_true q263) | (go_at_call 30; (with_reducible refine (darningref4_Takes.calls k ((rd_T35 l0 a1).f1) a2 t264 _ A20.out).mono ?_); rintro e w' ⟨rfl, ⟨nd, rfl⟩⟩))
  go_meet
  case rel => (try simp only [← Nbq16.out]); exact ⟨_, ((t264 == 0)), (by first | rfl | (simp; done) | (simp [*]; done)), H', ⟨by first | omega | exact Nat.le_refl _⟩, ⟨zB HB⟩⟩
 clear HC4
 try clear c1
 try clear q1
 try clear c2
 try clear p2
 try clear q2
 try clear hx2
 try clear c6
 try clear c7
 try clear c8
 try clear c8b0
 try clear c11
 try clear c11b0
 try clear c14
 try clear c14b0
 try clear c15
 try clear c15b0
 try clear q16
 try clear c17
 try clear c21
 try clear c24
 try clear hx262_0
 try clear hx262_1
 try clear hx262_2
 try clear hx263_0
 try clear hx263_1
 try clear hx263_2
 try clear p262
 try clear p263
 try clear q262
 try clear q263
 obtain ⟨kq, x41_3, rfl, HA, HJ3, HB⟩ := hcut
 cases kq with
 | zero => exact absurd HA.out (by simp [darningref4_Carved.j0])
 | succ kj3 =>
  have H := HA.out
  clear HA
  simp only [darningref4_Carved.j0] at H
  by_cases c25 : x41_3 = true
  ·
   subst c25
   have H1 : (some (([] : List (S35)), false)) = some (r1, r2) := by rw [if_pos rfl] at H; exact H
   clear H
   have H := H1
   clear H1
   simp only [Option.some.injEq, Prod.mk.injEq] at H
   obtain ⟨rfl, rfl⟩ := H
   go_wp2
   go_ret2
   exact ⟨_, by first | rfl | (simp [errW_none, errW_some] <;> rfl) | (simp [*, errW_none, errW_some] <;> rfl), by first | exact Kd.R_nil _ _ _ _ _ | exact Kd.N_nil _ _ _ _ _ | exact Kd.V_nil _ _ _ _ _ | exact Kd.Q_nil _ _ _ _ _ | exact Kd.S_nil _ _ _ _ _, zB HB⟩
  replace c25 := Bool.eq_false_iff.mpr c25
  subst c25
  have H1 : (if 0 ≤ a1 then (if a1 < (l0.length : Int) then ((darningref4_Takes.f kj3 ((rd_T35 l0 a1).f1) a2).bind fun t266 => (if a1 ≤ (l0.length : Int) then ((some (l0.take (a1 : Int).toNat : List (S35))).bind fun y267 => (if ([] : List (S35)).length + y267.length < 5864062014805 then ((some (([] : List (S35)) ++ y267 : List (S35))).bind fun y271 => ((some (([(⟨(rd_T35 l0 a1).f0, t266, true⟩ : S35)] : List (S35)) : List (S35))).bind fun y275 => (if y271.length + y275.length < 5864062014805 then ((some (y271 ++ y275 : List (S35))).bind fun y278 => (if t266 < ((rd_T35 l0 a1).f1) then ((some (([(⟨wrap64 (((rd_T35 l0 a1).f0) + t266), wrap64 (((rd_T35 l0 a1).f1) - t266), false⟩ : S35)] : List (S35)) : List (S35))).bind fun y284 => (if y278.length + y284.length < 5864062014805 then ((some (y278 ++ y284 : List (S35))).bind fun y287 => (if 0 ≤ (wrap64 (a1 + 1)) then (if (wrap64 (a1 + 1)) ≤ (l0.length : Int) then ((some (l0.drop ((wrap64 (a1 + 1)) : Int).toNat : List (S35))).bind fun y290 => (if y287.length + y290.length < 5864062014805 then (some ((y287 ++ y290), true)) else (none))) else (none)) else (none))) else (none))) else (if 0 ≤ (wrap64 (a1 + 1)) then (if (wrap64 (a1 + 1)) ≤ (l0.length : Int) then ((some (l0.drop ((wrap64 (a1 + 1)) : Int).toNat : List (S35))).bind fun y297 => (if y278.length + y297.length < 5864062014805 then (some ((y278 ++ y297), true)) else (none))) else (none)) else (none)))) else (none)))) else (none))) else (none))) else (none)) else (none)) = some (r1, r2) := by rw [if_neg (show ¬ (false = true) by decide)] at H; exact H
  clear H
  have H := H1
  clear H1
  by_cases c26 : 0 ≤ a1
  rotate_left
  ·
   rw [if_neg c26] at H
   exact absurd H (by simp)
  rw [if_pos c26] at H
  have c26b0 : decide (0 ≤ a1) = true := decide_eq_true c26
  clear c26
  by_cases c27 : a1 < (l0.length : Int)
  rotate_left
  ·
   rw [if_neg c27] at H
   exact absurd H (by simp)
  rw [if_pos c27] at H
  have c27b0 : decide (a1 < (l0.length : Int)) = true := decide_eq_true c27
  clear c27
  replace H := Option.bind_eq_some_iff.mp H
  obtain ⟨t266, A280, H⟩ := H
  replace H : (if a1 ≤ (l0.length : Int) then ((some (l0.take (a1 : Int).toNat : List (S35))).bind fun y267 => (if ([] : List (S35)).length + y267.length < 5864062014805 then ((some (([] : List (S35)) ++ y267 : List (S35))).bind fun y271 => ((some (([(⟨(rd_T35 l0 a1).f0, t266, true⟩ : S35)] : List (S35)) : List (S35))).bind fun y275 => (if y271.length + y275.length < 5864062014805 then ((some (y271 ++ y275 : List (S35))).bind fun y278 => (if t266 < ((rd_T35 l0 a1).f1) then ((some (([(⟨wrap64 (((rd_T35 l0 a1).f0) + t266), wrap64 (((rd_T35 l0 a1).f1) - t266), false⟩ : S35)] : List (S35)) : List (S35))).bind fun y284 => (if y278.length + y284.length < 5864062014805 then ((some (y278 ++ y284 : List (S35))).bind fun y287 => (if 0 ≤ (wrap64 (a1 + 1)) then (if (wrap64 (a1 + 1)) ≤ (l0.length : Int) then ((some (l0.drop ((wrap64 (a1 + 1)) : Int).toNat : List (S35))).bind fun y290 => (if y287.length + y290.length < 5864062014805 then (some ((y287 ++ y290), true)) else (none))) else (none)) else (none))) else (none))) else (if 0 ≤ (wrap64 (a1 + 1)) then (if (wrap64 (a1 + 1)) ≤ (l0.length : Int) then ((some (l0.drop ((wrap64 (a1 + 1)) : Int).toNat : List (S35))).bind fun y297 => (if y278.length + y297.length < 5864062014805 then (some ((y278 ++ y297), true)) else (none))) else (none)) else (none)))) else (none)))) else (none))) else (none)) = some (r1, r2) := H
  have A28 := Aside0.mk A280
  clear A280
  have c29b0 := eq_true (zu : 0 ≤ a1)
  by_cases c30 : a1 ≤ (l0.length : Int)
  rotate_left
  ·
   rw [if_neg c30] at H
   exact absurd H (by simp)
  rw [if_pos c30] at H
  have c30b0 := eq_true c30
  have c30b1 : decide (a1 ≤ (l0.length : Int)) = true := decide_eq_true c30
  clear c30
  obtain ⟨y267, hy267⟩ : ∃ y_ : List (S35), y_ = (l0.take (a1 : Int).toNat) := ⟨_, rfl⟩
  replace H : (if ([] : List (S35)).length + y267.length < 5864062014805 then ((some (([] : List (S35)) ++ y267 : List (S35))).bind fun y271 => ((some (([(⟨(rd_T35 l0 a1).f0, t266, true⟩ : S35)] : List (S35)) : List (S35))).bind fun y275 => (if y271.length + y275.length < 5864062014805 then ((some (y271 ++ y275 : List (S35))).bind fun y278 => (if t266 < ((rd_T35 l0 a1).f1) then ((some (([(⟨wrap64 (((rd_T35 l0 a1).f0) + t266), wrap64 (((rd_T35 l0 a1).f1) - t266), false⟩ : S35)] : List (S35)) : List (S35))).bind fun y284 => (if y278.length + y284.length < 5864062014805 then ((some (y278 ++ y284 : List (S35))).bind fun y287 => (if 0 ≤ (wrap64 (a1 + 1)) then (if (wrap64 (a1 + 1)) ≤ (l0.length : Int) then ((some (l0.drop ((wrap64 (a1 + 1)) : Int).toNat : List (S35))).bind fun y290 => (if y287.length + y290.length < 5864062014805 then (some ((y287 ++ y290), true)) else (none))) else (none)) else (none))) else (none))) else (if 0 ≤ (wrap64 (a1 + 1)) then (if (wrap64 (a1 + 1)) ≤ (l0.length : Int) then ((some (l0.drop ((wrap64 (a1 + 1)) : Int).toNat : List (S35))).bind fun y297 => (if y278.length + y297.length < 5864062014805 then (some ((y278 ++ y297), true)) else (none))) else (none)) else (none)))) else (none)))) else (none)) = some (r1, r2) := by first | (rw [hy267]; with_reducible exact H) | (have H2_ := (Option.bind_some _ _).symm.trans H; rw [hy267]; with_reducible exact H2_) | (have H2_ := (Option.bind_some _ _).symm.trans H; with_reducible exact H2_) | with_reducible exact H | (rw [hy267]; exact H) | exact H
  have Ny267 := Aside0.mk hy267
  clear hy267
  by_cases c31 : ([] : List (S35)).length + y267.length < 5864062014805
  rotate_left
  ·
   rw [if_neg c31] at H
   exact absurd H (by simp)
  rw [if_pos c31] at H
  have LMc31 := Aside0.mk c31
  clear c31
  obtain ⟨y271, hy271⟩ : ∃ y_ : List (S35), y_ = (([] : List (S35)) ++ y267) := ⟨_, rfl⟩
  replace H : ((some (([(⟨(rd_T35 l0 a1).f0, t266, true⟩ : S35)] : List (S35)) : List (S35))).bind fun y275 => (if y271.length + y275.length < 5864062014805 then ((some (y271 ++ y275 : List (S35))).bind fun y278 => (if t266 < ((rd_T35 l0 a1).f1) then ((some (([(⟨wrap64 (((rd_T35 l0 a1).f0) + t266), wrap64 (((rd_T35 l0 a1).f1) - t266), false⟩ : S35)] : List (S35)) : List (S35))).bind fun y284 => (if y278.length + y284.length < 5864062014805 then ((some (y278 ++ y284 : List (S35))).bind fun y287 => (if 0 ≤ (wrap64 (a1 + 1)) then (if (wrap64 (a1 + 1)) ≤ (l0.length : Int) then ((some (l0.drop ((wrap64 (a1 + 1)) : Int).toNat : List (S35))).bind fun y290 => (if y287.length + y290.length < 5864062014805 then (some ((y287 ++ y290), true)) else (none))) else (none)) else (none))) else (none))) else (if 0 ≤ (wrap64 (a1 + 1)) then (if (wrap64 (a1 + 1)) ≤ (l0.length : Int) then ((some (l0.drop ((wrap64 (a1 + 1)) : Int).toNat : List (S35))).bind fun y297 => (if y278.length + y297.length < 5864062014805 then (some ((y278 ++ y297), true)) else (none))) else (none)) else (none)))) else (none))) = some (r1, r2) := by first | (rw [hy271]; with_reducible exact H) | (have H2_ := (Option.bind_some _ _).symm.trans H; rw [hy271]; with_reducible exact H2_) | (have H2_ := (Option.bind_some _ _).symm.trans H; with_reducible exact H2_) | with_reducible exact H | (rw [hy271]; exact H) | exact H
  have Ny271 := Aside0.mk hy271
  clear hy271
  obtain ⟨y275, hy275⟩ : ∃ y_ : List (S35), y_ = (([(⟨(rd_T35 l0 a1).f0, t266, true⟩ : S35)] : List (S35))) := ⟨_, rfl⟩
  replace H : (if y271.length + y275.length < 5864062014805 then ((some (y271 ++ y275 : List (S35))).bind fun y278 => (if t266 < ((rd_T35 l0 a1).f1) then ((some (([(⟨wrap64 (((rd_T35 l0 a1).f0) + t266), wrap64 (((rd_T35 l0 a1).f1) - t266), false⟩ : S35)] : List (S35)) : List (S35))).bind fun y284 => (if y278.length + y284.length < 5864062014805 then ((some (y278 ++ y284 : List (S35))).bind fun y287 => (if 0 ≤ (wrap64 (a1 + 1)) then (if (wrap64 (a1 + 1)) ≤ (l0.length : Int) then ((some (l0.drop ((wrap64 (a1 + 1)) : Int).toNat : List (S35))).bind fun y290 => (if y287.length + y290.length < 5864062014805 then (some ((y287 ++ y290), true)) else (none))) else (none)) else (none))) else (none))) else (if 0 ≤ (wrap64 (a1 + 1)) then (if (wrap64 (a1 + 1)) ≤ (l0.length : Int) then ((some (l0.drop ((wrap64 (a1 + 1)) : Int).toNat : List (S35))).bind fun y297 => (if y278.length + y297.length < 5864062014805 then (some ((y278 ++ y297), true)) else (none))) else (none)) else (none)))) else (none)) = some (r1, r2) := by first | (rw [hy275]; with_reducible exact H) | (have H2_ := (Option.bind_some _ _).symm.trans H; rw [hy275]; with_reducible exact H2_) | (have H2_ := (Option.bind_some _ _).symm.trans H; with_reducible exact H2_) | with_reducible exact H | (rw [hy275]; exact H) | exact H
  have Ny275 := Aside0.mk hy275
  clear hy275
  by_cases c32 : y271.length + y275.length < 5864062014805
  rotate_left
  ·
   rw [if_neg c32] at H
   exact absurd H (by simp)
  rw [if_pos c32] at H
  have LMc32 := Aside0.mk c32
  clear c32
  obtain ⟨y278, hy278⟩ : ∃ y_ : List (S35), y_ = (y271 ++ y275) := ⟨_, rfl⟩
  replace H : (if t266 < ((rd_T35 l0 a1).f1) then ((some (([(⟨wrap64 (((rd_T35 l0 a1).f0) + t266), wrap64 (((rd_T35 l0 a1).f1) - t266), false⟩ : S35)] : List (S35)) : List (S35))).bind fun y284 => (if y278.length + y284.length < 5864062014805 then ((some (y278 ++ y284 : List (S35))).bind fun y287 => (if 0 ≤ (wrap64 (a1 + 1)) then (if (wrap64 (a1 + 1)) ≤ (l0.length : Int) then ((some (l0.drop ((wrap64 (a1 + 1)) : Int).toNat : List (S35))).bind fun y290 => (if y287.length + y290.length < 5864062014805 then (some ((y287 ++ y290), true)) else (none))) else (none)) else (none))) else (none))) else (if 0 ≤ (wrap64 (a1 + 1)) then (if (wrap64 (a1 + 1)) ≤ (l0.length : Int) then ((some (l0.drop ((wrap64 (a1 + 1)) : Int).toNat : List (S35))).bind fun y297 => (if y278.length + y297.length < 5864062014805 then (some ((y278 ++ y297), true)) else (none))) else (none)) else (none))) = some (r1, r2) := by first | (rw [hy278]; with_reducible exact H) | (have H2_ := (Option.bind_some _ _).symm.trans H; rw [hy278]; with_reducible exact H2_) | (have H2_ := (Option.bind_some _ _).symm.trans H; with_reducible exact H2_) | with_reducible exact H | (rw [hy278]; exact H) | exact H
  have Ny278 := Aside0.mk hy278
  clear hy278
  by_cases c33 : t266 < ((rd_T35 l0 a1).f1)
  rotate_left
  ·
   rw [if_neg c33] at H
   have c33b0 : decide (t266 < ((rd_T35 l0 a1).f1)) = false := decide_eq_false c33
   clear c33
   obtain ⟨ji54, hji54⟩ : ∃ j_ : Int, (wrap64 (a1 + 1)) = j_ := ⟨_, rfl⟩
   replace H : (if 0 ≤ (ji54) then (if (ji54) ≤ (l0.length : Int) then ((some (l0.drop ((ji54) : Int).toNat : List (S35))).bind fun y297 => (if y278.length + y297.length < 5864062014805 then (some ((y278 ++ y297), true)) else (none))) else (none)) else (none)) = some (r1, r2) := by first | (rw [hji54] at H; exact H) | (simp only [hji54] at H ⊢; exact H)
   (try rw [hji54] at A28)
   have hji54w : (IntKind.i64.wrap (a1 + 1)) = ji54 := (i64_w _).trans hji54
   by_cases c55 : 0 ≤ (ji54)
   rotate_left
   ·
    rw [if_neg c55] at H
    exact absurd H (by simp)
   rw [if_pos c55] at H
   have c55b0 := eq_true c55
   have c55b1 : decide (0 ≤ (ji54)) = true := decide_eq_true c55
   clear c55
   by_cases c56 : (ji54) ≤ (l0.length : Int)
   rotate_left
   ·
    rw [if_neg c56] at H
    exact absurd H (by simp)
   rw [if_pos c56] at H
   have c56b0 := eq_true c56
   have c56b1 : decide ((ji54) ≤ (l0.length : Int)) = true := decide_eq_true c56
   clear c56
   obtain ⟨y297, hy297⟩ : ∃ y_ : List (S35), y_ = (l0.drop ((ji54) : Int).toNat) := ⟨_, rfl⟩
   replace H : (if y278.length + y297.length < 5864062014805 then (some ((y278 ++ y297), true)) else (none)) = some (r1, r2) := by first | (rw [hy297]; with_reducible exact H) | (have H2_ := (Option.bind_some _ _).symm.trans H; rw [hy297]; with_reducible exact H2_) | (have H2_ := (Option.bind_some _ _).symm.trans H; with_reducible exact H2_) | with_reducible exact H | (rw [hy297]; exact H) | exact H
   have Ny297 := Aside0.mk hy297
   clear hy297
   by_cases c57 : y278.length + y297.length < 5864062014805
   rotate_left
   ·
    rw [if_neg c57] at H
    exact absurd H (by simp)
   rw [if_pos c57] at H
   have LMc57 := Aside0.mk c57
   clear c57
   obtain ⟨y301, hy301⟩ : ∃ y_ : List (S35), y_ = (y278 ++ y297) := ⟨_, rfl⟩
   replace H : (some (y301, true)) = some (r1, r2) := by first | (rw [hy301]; with_reducible exact H) | (have H2_ := (Option.bind_some _ _).symm.trans H; rw [hy301]; with_reducible exact H2_) | (have H2_ := (Option.bind_some _ _).symm.trans H; with_reducible exact H2_) | with_reducible exact H | (rw [hy301]; exact H) | exact H
   have Ny301 := Aside0.mk hy301
   clear hy301
   simp only [Option.some.injEq, Prod.mk.injEq] at H
   obtain ⟨rfl, rfl⟩ := H
   have p265 : 0 ≤ (a1 : Int) := zu
   have q265 : a1 < (l0.length : Int) := zu
   obtain ⟨ad265, e265, hx265_0, hx265_1, hx265_2⟩ := at_T35 HR0.out a1 p265 q265
   cases e265
   replace hx265_0 := zw HB hx265_0
   replace hx265_1 := zw HB hx265_1
   replace hx265_2 := zw HB hx265_2
   replace p265 := eq_true p265
   replace q265 := eq_true q265
   try go_wp2_with (first | ((with_reducible refine gate_callee (f := 30) rfl ?_); refine goesL_ (some 48) rfl rfl Try.func30 (by kernel_rfl) rfl #[.int .i64 ((rd_T35 l0 a1).f1), .int .i64 a2] rfl (by (try simp only [qj, qk, ql]); first | done | rfl | (simp only [qm, qn]; rfl)) ?_; (with_reducible refine (darningref4_Takes.calls kj3 ((rd_T35 l0 a1).f1) a2 t266 _ A28.out).mono ?_); rintro e w' ⟨rfl, ⟨nd, rfl⟩⟩; refine ⟨_, rfl, ?_⟩))
   (try (rw [drewN_self wc]; generalize hq_ : World.drewN wc _ = wc; have n0_ : Aside0 (Below w.heap.size w wc) := ⟨by rw [← hq_]; exact (zB HB)⟩; clear HB hq_; have HB := n0_; clear n0_))
   have n0_ := Aside0.mk (qf HB.out)
   clear HB
   have HB := n0_
   clear n0_
   have q59 : (a1 : Int) ≤ ((l0.length : Int) : Int) := zu
   obtain ⟨i059, hi059, _, hsz59, _⟩ := info_parts info35
   have hroom59 : l0.length ≤ c0 := HC0.out
   have hC59 : Kd.C k35 _ (some ad265) l0.length l0 := HR0.out
   have hcut59 := cut_to (P := Try.prog) 22 35 .i64 Try.underlying22 hi059 (some ad265) l0.length c0 a1 (zu) q59 hroom59
   have hr59 := Kd.C_take (m := (a1 : Int).toNat) hC59 (by omega)
   have hy59 : y267.length = (a1 : Int).toNat := (by rw [Ny267.out, qn]; omega)
   rw [← Ny267.out] at hr59
   rw [← hy59] at hcut59
   have HR270 := Aside0.mk hr59
   have HC270 := Aside0.mk (show y267.length ≤ c0 from by omega)
   clear hr59 hC59 hroom59 hi059 hsz59
   have KY59 := Aside0.mk hy59
   clear hy59
   replace q59 := eq_true q59
   have p274 : 0 ≤ (a1 : Int) := zu
   have q274 : a1 < (l0.length : Int) := zu
   obtain ⟨ad274, e274, hx274_0, hx274_1, hx274_2⟩ := at_T35 HR0.out a1 p274 q274
   have hw274_2 := hx274_2
   have hw274_1 := hx274_1
   have hw274_0 := hx274_0
   obtain rfl : ad265 = ad274 := (by injection e274)
   replace hx274_0 := zw HB hx274_0
   replace hx274_1 := zw HB hx274_1
   replace hx274_2 := zw HB hx274_2
   replace p274 := eq_true p274
   replace q274 := eq_true q274
   refine start_ (n := 14) (S := fun w' => w'.cell? (ad265.add ((a1).toNat * 3)) = some (.int .i64 ((rd_T35 l0 a1).f0)) ∧ w'.cell? ⟨(ad265.add ((a1).toNat * 3)).block, (ad265.add ((a1).toNat * 3)).off + 1, none⟩ = some (.int .i64 ((rd_T35 l0 a1).f1)) ∧ w'.cell? ⟨(ad265.add ((a1).toNat * 3)).block, (ad265.add ((a1).toNat * 3)).off + 2, none⟩ = some (.bool ((rd_T35 l0 a1).f2))) (ds := []) (onA 14 0) (by kernel_rfl) rfl rfl ⟨(zw HB hw274_0), (zw HB hw274_1), (zw HB hw274_2)⟩ (fun hHeld => ?_); refine with_tabW darningref4_Carved.tab4 darningref4_Carved.bits4 (fun HT_ HW_ => ?_)
   generalize wc.drew = w58 at HB HR270 hx274_0 hx274_1 hx274_2 hHeld ⊢
   refine pu 0 (some 49) (onA 14 1) HT_ (h := ?_)
   refine pu 1 (some 50) (onA 14 2) HT_ (h := ?_)
   refine pu 2 (some 51) (onA 14 3) HT_ (h := ?_)
   refine pu 4 (some 53) #[tt_,tt_,tt_,ff_,tt_,ff_,ff_,ff_,ff_,ff_,ff_,ff_,ff_,ff_] HT_ (h := ?_)
   refine pu 5 (some 54) #[tt_,tt_,tt_,ff_,tt_,tt_,ff_,ff_,ff_,ff_,ff_,ff_,ff_,ff_] HT_ (h := ?_)
   refine pu 6 (some 55) #[tt_,tt_,tt_,ff_,tt_,tt_,tt_,ff_,ff_,ff_,ff_,ff_,ff_,ff_] HT_ (h := ?_)
   refine pu 7 (some 56) #[tt_,tt_,tt_,ff_,tt_,tt_,tt_,tt_,ff_,ff_,ff_,ff_,ff_,ff_] HT_ (h := ?_)
   refine pu 9 (some 58) #[tt_,tt_,tt_,ff_,tt_,tt_,tt_,tt_,ff_,tt_,ff_,ff_,ff_,ff_] HT_ (h := ?_)
   refine take_ (i := 8) (N := some 57) (v := ?_) (a' := ?_) #[tt_,tt_,tt_,ff_,tt_,tt_,tt_,tt_,tt_,tt_,ff_,ff_,ff_,ff_] rfl rfl (take_ofW HT_.out HW_.out (by kernel_rfl)) (fun _ _ _ h => h) (Or.inl ⟨by rfl, ?_⟩) hHeld ?_ ?_
   rotate_left
   ·
    rintro w' ⟨s0, s1, s2⟩
    go_simp
    with_reducible rfl
   rotate_left
   ·
    simp only [Act.put, qg, qh, qi, i64_w, i32_w]
    rfl
   refine pu 10 (some 59) #[tt_,tt_,tt_,ff_,tt_,tt_,tt_,tt_,tt_,tt_,tt_,ff_,ff_,ff_] HT_ (h := ?_)
   refine join_ (σ := Value × Value) 2 (onA 14 12) (fun s_ => [(52, s_.1), (60, s_.2)]) (fun s_ w' => (w'.cell? (ad265.add ((a1).toNat * 3)) = some (.int .i64 ((rd_T35 l0 a1).f0)) ∧ w'.cell? ⟨(ad265.add ((a1).toNat * 3)).block, (ad265.add ((a1).toNat * 3)).off + 1, none⟩ = some (.int .i64 ((rd_T35 l0 a1).f1)) ∧ w'.cell? ⟨(ad265.add ((a1).toNat * 3)).block, (ad265.add ((a1).toNat * 3)).off + 2, none⟩ = some (.bool ((rd_T35 l0 a1).f2))) ∧ (Kd.R k35 35 w' w.heap.size (fun k_ => some k_ ≠ (s_.2 : Value).ownBlock) s_.1 y271) ∧ (Kd.R k35 35 w' w.heap.size (fun k_ => some k_ ≠ (s_.1 : Value).ownBlock) s_.2 y275) ∧ (Below w.heap.size w w')) ?_ ?_
   rotate_left
   ·
    intro hCont
    refine two_ (i := 3) (j := 11) (Ni := some 52) (Nj := some 60) (onA 14 11) #[tt_,tt_,tt_,ff_,tt_,tt_,tt_,tt_,tt_,tt_,tt_,tt_,ff_,ff_] rfl rfl rfl rfl (two_of HT_.out (by kernel_rfl)) (by decide) (by decide) (fun K hK => ?_) (fun K hK => ?_)
    ·
     skip
     refine Kd.R_append_rows_step k35 (w0 := w) w.heap.size (by rfl) (.const (.slice none 0 0)) (.tmp 51) 22 35 (.agg #[(.int .i64 0), (.int .i64 0), (.bool false)]) 24 rfl Try.underlying22 info35 rfl (by decide) (by omega) (.slice none 0 0) ([] : List (S35)) y267 _ _ _ (fun _ => True) (fun _ => False) rfl rfl ?aO ?aR (fun _ _ h => h) (fun _ h => h.elim) ?aF ?aB ?aS ?aL ?_
     (case aR => repeat (first | exact (Kd.C_below HR270.out HB.out) | (with_reducible refine qr ?_ _) | (with_reducible refine qs ?_ _) | (with_reducible refine qt ?_)))
     (case aB => exact (zB HB))
     (case aF => exact (fun _ _ => trivial))
     (case aO => exact ((Kd.R_nil _ _ _ _ (fun _ => True))))
     (case aS => exact (below_size (zB HB)))
     (case aL => have := LMc31.out; omega)
     intro v272 w60 ho hb hg hat
     rw [← Ny271.out] at ho
     have n0_ := Aside0.mk (hb)
     have n1_ := Aside0.mk (ho)
     clear HB
     have HB := n0_
     have HO273 := n1_
     clear n0_ n1_
     clear ho hb hg hat
     refine hK.out _ _ ⟨(zw HB hw274_0), (zw HB hw274_1), (zw HB hw274_2)⟩ (fun hHeld => ?_)
     clear hK K
     refine norm_ (a' := ?_) ?_ ?_
     rotate_left
     ·
      show Act.put _ (some 52) _ = _
      simp only [Act.put, qg, qh, qi, i64_w, i32_w]
      rfl
     refine one_ (i := 11) (N := some 60) (onA 14 12) rfl rfl (one_of HT_.out (by kernel_rfl)) (by decide) (fun K hK => ?_)
     refine Kd.R_lit_step k35 _ 35 ?hg (N := 60) ?hd (xs := ([(⟨(rd_T35 l0 a1).f0, t266, true⟩ : S35)] : List (S35))) (inner := [.int .i64 ((rd_T35 l0 a1).f0), .int .i64 t266, .bool true]) (ok := fun _ => True) (okp := fun _ => True) ?hr ?hp (fun _ hk => hk) trivial (Below.refl _ _) (Nat.le_refl _) (by simp) ?_; (case hd => rfl); (case hg => rfl); (case hr => first | (go_simp; done) | (go_simp; rfl)); (case hp => exact (Reps.c3 (show Kd.M k35 _ _ _ (⟨(rd_T35 l0 a1).f0, t266, true⟩ : S35) [.int .i64 ((rd_T35 l0 a1).f0), .int .i64 t266, .bool true] from (k35_mkM _ _ _ (⟨(rd_T35 l0 a1).f0, t266, true⟩ : S35) )) (Reps.none _ _)))
     intro v276 w61 ho62 hb hg_ hnew_
     clear hg_ hnew_
     (first | rw [← Ny275.out] at ho62 | (simp only [Int.reduceToNat] at ho62; rw [← Ny275.out] at ho62))
     have n0_ := Aside0.mk (Kd.R_elder' (zr HO273) (Kd.R_base ho62) hb)
     have n1_ := Aside0.mk (Kd.R_lower (Kd.R_new' ho62 (Kd.R_lt (zr HO273))) (below_size (zB HB)))
     have n2_ := zb HB hb
     clear HO273
     clear HB
     have HO273 := n0_
     have HO277 := n1_
     have HB := n2_
     clear n0_ n1_ n2_
     clear hb ho62
     refine hK.out _ _ ⟨(zw HB hw274_0), (zw HB hw274_1), (zw HB hw274_2)⟩ (fun hHeld => ?_)
     clear hK K
     refine norm_ (a' := ?_) ?_ ?_
     rotate_left
     ·
      show Act.put _ (some 60) _ = _
      simp only [Act.put, qg, qh, qi, i64_w, i32_w]
      rfl
     exact norm_ (by simp only [putAll, Act.put, qg, qh, qi]) (hCont (v272, v276) _ ⟨hHeld, (by (with_reducible repeat (first | apply qa | apply qb | apply qc)); exact Kd.R_mono HO273.out (fun _ hk => hk.2)), (by (with_reducible repeat (first | apply qa | apply qb | apply qc)); exact Kd.R_mono HO277.out (fun _ hk => hk.2)), (zB HB)⟩)
    ·
     skip
     refine Kd.R_lit_step k35 _ 35 ?hg (N := 60) ?hd (xs := ([(⟨(rd_T35 l0 a1).f0, t266, true⟩ : S35)] : List (S35))) (inner := [.int .i64 ((rd_T35 l0 a1).f0), .int .i64 t266, .bool true]) (ok := fun _ => True) (okp := fun _ => True) ?hr ?hp (fun _ hk => hk) trivial (Below.refl _ _) (Nat.le_refl _) (by simp) ?_; (case hd => rfl); (case hg => rfl); (case hr => first | (go_simp; done) | (go_simp; rfl)); (case hp => exact (Reps.c3 (show Kd.M k35 _ _ _ (⟨(rd_T35 l0 a1).f0, t266, true⟩ : S35) [.int .i64 ((rd_T35 l0 a1).f0), .int .i64 t266, .bool true] from (k35_mkM _ _ _ (⟨(rd_T35 l0 a1).f0, t266, true⟩ : S35) )) (Reps.none _ _)))
     intro v276 w60 ho61 hb hg_ hnew_
     clear hg_ hnew_
     (first | rw [← Ny275.out] at ho61 | (simp only [Int.reduceToNat] at ho61; rw [← Ny275.out] at ho61))
     have n0_ := Aside0.mk (Kd.R_lower ho61 (below_size (zB HB)))
     have n1_ := zb HB hb
     clear HB
     have HO277 := n0_
     have HB := n1_
     clear n0_ n1_
     clear hb ho61
     refine hK.out _ _ ⟨(zw HB hw274_0), (zw HB hw274_1), (zw HB hw274_2)⟩ (fun hHeld => ?_)
     clear hK K
     refine norm_ (a' := ?_) ?_ ?_
     rotate_left
     ·
      show Act.put _ (some 60) _ = _
      simp only [Act.put, qg, qh, qi, i64_w, i32_w]
      rfl
     refine one_ (i := 3) (N := some 52) (onA 14 12) rfl rfl (one_of HT_.out (by kernel_rfl)) (by decide) (fun K hK => ?_)
     refine Kd.R_append_rows_step k35 (w0 := w) w.heap.size (by rfl) (.const (.slice none 0 0)) (.tmp 51) 22 35 (.agg #[(.int .i64 0), (.int .i64 0), (.bool false)]) 24 rfl Try.underlying22 info35 rfl (by decide) (by omega) (.slice none 0 0) ([] : List (S35)) y267 _ _ _ (fun k_ => some k_ ≠ (v276 : Value).ownBlock) (fun _ => False) rfl rfl ?aO ?aR (fun _ _ h => h) (fun _ h => h.elim) ?aF ?aB ?aS ?aL ?_
     (case aR => repeat (first | exact (Kd.C_below HR270.out HB.out) | (with_reducible refine qr ?_ _) | (with_reducible refine qs ?_ _) | (with_reducible refine qt ?_)))
     (case aB => exact (zB HB))
     (case aF => exact (fun k_ hk => Kd.fresh' (Kd.R_lt (zr HO277)) k_ hk))
     (case aO => exact ((Kd.R_nil _ _ _ _ (fun k_ => some k_ ≠ (v276 : Value).ownBlock))))
     (case aS => exact (below_size (zB HB)))
     (case aL => have := LMc31.out; omega)
     intro v272 w62 ho hb hg hat
     rw [← Ny271.out] at ho
     have n0_ := Aside0.mk (Kd.R_after (Kd.R_apart_nil (zr HO277)) hg hat)
     have n1_ := Aside0.mk (hb)
     have n2_ := Aside0.mk (ho)
     clear HO277
     clear HB
     have HO277 := n0_
     have HB := n1_
     have HO273 := n2_
     clear n0_ n1_ n2_
     clear ho hb hg hat
     refine hK.out _ _ ⟨(zw HB hw274_0), (zw HB hw274_1), (zw HB hw274_2)⟩ (fun hHeld => ?_)
     clear hK K
     refine norm_ (a' := ?_) ?_ ?_
     rotate_left
     ·
      show Act.put _ (some 52) _ = _
      simp only [Act.put, qg, qh, qi, i64_w, i32_w]
      rfl
     exact norm_ (by simp only [putAll, Act.put, qg, qh, qi]) (hCont (v272, v276) _ ⟨hHeld, (zr HO273), (by (with_reducible repeat (first | apply qa | apply qb | apply qc)); exact Kd.R_mono HO277.out (fun _ hk => hk.2)), (zB HB)⟩)
   rintro ⟨v272, v276⟩ w63 ⟨hS_, h0_, h1_, h2_⟩
   have n0_ : Aside0 (Kd.R k35 35 w63 w.heap.size (fun k_ => some k_ ≠ (v276 : Value).ownBlock) v272 y271) := ⟨h0_⟩
   have n1_ : Aside0 (Kd.R k35 35 w63 w.heap.size (fun k_ => some k_ ≠ (v272 : Value).ownBlock) v276 y275) := ⟨h1_⟩
   have n2_ : Aside0 (Below w.heap.size w w63) := ⟨h2_⟩
   clear HB
   clear h0_ h1_ h2_
   have HO273 := n0_
   have HO277 := n1_
   have HB := n2_
   clear n0_ n1_ n2_
   have hHeld : w63.cell? (ad265.add ((a1).toNat * 3)) = some (.int .i64 ((rd_T35 l0 a1).f0)) ∧ w63.cell? ⟨(ad265.add ((a1).toNat * 3)).block, (ad265.add ((a1).toNat * 3)).off + 1, none⟩ = some (.int .i64 ((rd_T35 l0 a1).f1)) ∧ w63.cell? ⟨(ad265.add ((a1).toNat * 3)).block, (ad265.add ((a1).toNat * 3)).off + 2, none⟩ = some (.bool ((rd_T35 l0 a1).f2)) := hS_
   obtain ⟨Ao65, co65, eo65⟩ := Kd.R_slice HO277.out
   (first | subst eo65 | (injection eo65 with f1_ f2_ f3_; have f4_ := f1_.symm; have f5_ := f3_.symm; clear f1_ f2_ f3_; subst f4_; subst f5_))
   refine norm_ (a' := ?_) ?_ ?_
   rotate_left
   ·
    simp only [putAll, Act.put, qg, qh, qi]
    rfl
   refine one_ (i := 12) (N := some 61) (onA 14 13) rfl rfl (one_of HT_.out (by kernel_rfl)) (by decide) (fun K hK => ?_)
   refine Kd.R_append_rows_step k35 (w0 := w) w.heap.size (by rfl) (.tmp 52) (.tmp 60) 22 35 (.agg #[(.int .i64 0), (.int .i64 0), (.bool false)]) 24 rfl Try.underlying22 info35 rfl (by decide) (by omega) v272 y271 y275 _ _ _ (fun k_ => some k_ ≠ (.slice Ao65 y275.length co65 : Value).ownBlock) (fun _ => False) rfl rfl ?aO ?aR (fun _ _ h => h) (fun _ h => h.elim) ?aF ?aB ?aS ?aL ?_
   (case aR => repeat (first | exact (Kd.R_reads' HO277.out).2.2 | (with_reducible refine qr ?_ _) | (with_reducible refine qs ?_ _) | (with_reducible refine qt ?_)))
   (case aB => exact (zB HB))
   (case aF => exact (fun k_ hk => Kd.fresh' (Kd.R_lt (zr HO277)) k_ hk))
   (case aO => exact (zr HO273))
   (case aS => exact (below_size (zB HB)))
   (case aL => have := LMc32.out; omega)
   intro v279 w64 ho hb hg hat
   rw [← Ny278.out] at ho
   have n0_ := Aside0.mk (Kd.R_after (ok := (fun _ => True)) (by (with_reducible repeat (first | apply qa | apply qb | apply qc)); exact Kd.R_mono HO277.out (fun _ hk => ⟨trivial, hk⟩)) hg hat)
   have n1_ := Aside0.mk (hb)
   have n2_ := Aside0.mk (ho)
   clear HO277
   clear HB
   clear HO273
   have HO277 := n0_
   have HB := n1_
   have HO280 := n2_
   clear n0_ n1_ n2_
   clear ho hb hg hat
   refine hK.out _ _ ⟨(zw HB hw274_0), (zw HB hw274_1), (zw HB hw274_2)⟩ (fun hHeld => ?_)
   clear hK K
   refine norm_ (a' := ?_) ?_ ?_
   rotate_left
   ·
    show Act.put _ (some 61) _ = _
    simp only [Act.put, qg, qh, qi, i64_w, i32_w]
    rfl
   refine pu 13 (some 9) (onA 14 14) HT_ (h := ?_)
   refine done_ (done_of HT_.out (by kernel_rfl)) ?_
   have p281 : 0 ≤ (a1 : Int) := zu
   have q281 : a1 < (l0.length : Int) := zu
   obtain ⟨ad281, e281, hx281_0, hx281_1, hx281_2⟩ := at_T35 HR0.out a1 p281 q281
   obtain rfl : ad265 = ad281 := (by injection e281)
   replace hx281_0 := zw HB hx281_0
   replace hx281_1 := zw HB hx281_1
   replace hx281_2 := zw HB hx281_2
   replace p281 := eq_true p281
   replace q281 := eq_true q281
   have q66 : ((ji54) : Int) ≤ ((l0.length : Int) : Int) := zu
   obtain ⟨i066, hi066, _, hsz66, _⟩ := info_parts info35
   have hroom66 : l0.length ≤ c0 := HC0.out
   have hC66 : Kd.C k35 _ (some ad265) l0.length l0 := HR0.out
   have q066 : (0 : Int) ≤ ((ji54) : Int) := zu
   have hcut66 := cut_from (P := Try.prog) 22 35 .i64 Try.underlying22 hi066 3 hsz66 (some ad265) l0.length c0 (ji54) q066 q66
   have hr66 := Kd.C_drop (m := ((ji54) : Int).toNat) (c := c0) hC66 (by omega) hroom66
   obtain ⟨A66, hA66⟩ : ∃ A1, A1 = (if c0 = ((ji54) : Int).toNat then (some ad265) else ((some ad265) : Option Addr).map (·.add (((ji54) : Int).toNat * 3))) := ⟨_, rfl⟩
   obtain ⟨c66, hc66⟩ : ∃ c1, c1 = c0 - ((ji54) : Int).toNat := ⟨_, rfl⟩
   have hy66 : y297.length = l0.length - ((ji54) : Int).toNat := (by rw [Ny297.out, qm] <;> omega)
   rw [show (l0).drop ((ji54) : Int).toNat = y297 from Ny297.out.symm] at hr66
   replace hr66 : Kd.C k35 _ A66 y297.length y297 := (by rw [hA66]; exact hr66)
   rw [← hy66, ← hA66, ← hc66] at hcut66
   have HR300 := Aside0.mk hr66
   have HC300 := Aside0.mk (show y297.length ≤ c66 from by rw [hy66, hc66]; exact Nat.sub_le_sub_right hroom66 _)
   clear hr66 hC66 hroom66 hi066 hsz66 hc66
   have KY66 := Aside0.mk hy66
   have KA66 := Aside0.mk hA66
   clear hy66 hA66
   replace q66 := eq_true q66
   try go_wp2_with (first | ((with_reducible refine gate_builtin (b := .append) (xs := #[.tmp 87, .tmp 91]) rfl ?_); (try (refine gate_guard (by rfl) ?_; dsimp only)); at_builtin; refine Kd.R_append_rows k35 (w0 := w) w.heap.size rfl (.tmp 87) (.tmp 91) 22 35 (.agg #[(.int .i64 0), (.int .i64 0), (.bool false)]) 24 rfl Try.underlying22 info35 rfl (by decide) (by omega) v279 y278 y297 _ _ _ (fun k_ => some k_ ≠ (.slice Ao65 y275.length co65 : Value).ownBlock) (fun _ => False) rfl rfl ?aO ?aR (fun _ _ h => h) (fun _ h => h.elim) ?aF ?aB ?aS ?aL ?_; (case aR => repeat (first | exact (Kd.C_below HR300.out HB.out) | (with_reducible refine qr ?_ _) | (with_reducible refine qs ?_ _) | (with_reducible refine qt ?_))); (case aB => exact (zB HB)); (case aF => exact (fun k_ hk => Kd.fresh' (Kd.R_lt (zr HO277)) k_ hk)); (case aO => exact (zr HO280)); (case aS => exact (below_size (zB HB))); (case aL => have := LMc57.out; omega); intro v302 w67 ho hb hg hat; rw [← Ny301.out] at ho; have n0_ := Aside0.mk (Kd.R_after (ok := (fun _ => True)) (zr HO277) hg hat); have n1_ := Aside0.mk (hb); have n2_ := Aside0.mk (ho); clear HO277; clear HB; clear HO280; have HO277 := n0_; have HB := n1_; have HO303 := n2_; clear n0_ n1_ n2_; clear ho hb hg hat))
   go_ret2
   exact ⟨_, by first | rfl | (simp [errW_none, errW_some] <;> rfl) | (simp only [← hji54]; first | rfl | (simp [errW_none, errW_some] <;> rfl)) | (simp [*, errW_none, errW_some] <;> rfl), by (with_reducible repeat (first | apply qa | apply qb | apply qc)); exact Kd.R_mono HO303.out (fun _ hk => trivial), zB HB⟩
  rw [if_pos c33] at H
  have c33b0 : decide (t266 < ((rd_T35 l0 a1).f1)) = true := decide_eq_true c33
  clear c33
  obtain ⟨y284, hy284⟩ : ∃ y_ : List (S35), y_ = (([(⟨wrap64 (((rd_T35 l0 a1).f0) + t266), wrap64 (((rd_T35 l0 a1).f1) - t266), false⟩ : S35)] : List (S35))) := ⟨_, rfl⟩
  replace H : (if y278.length + y284.length < 5864062014805 then ((some (y278 ++ y284 : List (S35))).bind fun y287 => (if 0 ≤ (wrap64 (a1 + 1)) then (if (wrap64 (a1 + 1)) ≤ (l0.length : Int) then ((some (l0.drop ((wrap64 (a1 + 1)) : Int).toNat : List (S35))).bind fun y290 => (if y287.length + y290.length < 5864062014805 then (some ((y287 ++ y290), true)) else (none))) else (none)) else (none))) else (none)) = some (r1, r2) := by first | (rw [hy284]; with_reducible exact H) | (have H2_ := (Option.bind_some _ _).symm.trans H; rw [hy284]; with_reducible exact H2_) | (have H2_ := (Option.bind_some _ _).symm.trans H; with_reducible exact H2_) | with_reducible exact H | (rw [hy284]; exact H) | exact H
  have Ny284 := Aside0.mk hy284
  clear hy284
  by_cases c34 : y278.length + y284.length < 5864062014805
  rotate_left
  ·
   rw [if_neg c34] at H
   exact absurd H (by simp)
  rw [if_pos c34] at H
  have LMc34 := Aside0.mk c34
  clear c34
  obtain ⟨y287, hy287⟩ : ∃ y_ : List (S35), y_ = (y278 ++ y284) := ⟨_, rfl⟩
  replace H : (if 0 ≤ (wrap64 (a1 + 1)) then (if (wrap64 (a1 + 1)) ≤ (l0.length : Int) then ((some (l0.drop ((wrap64 (a1 + 1)) : Int).toNat : List (S35))).bind fun y290 => (if y287.length + y290.length < 5864062014805 then (some ((y287 ++ y290), true)) else (none))) else (none)) else (none)) = some (r1, r2) := by first | (rw [hy287]; with_reducible exact H) | (have H2_ := (Option.bind_some _ _).symm.trans H; rw [hy287]; with_reducible exact H2_) | (have H2_ := (Option.bind_some _ _).symm.trans H; with_reducible exact H2_) | with_reducible exact H | (rw [hy287]; exact H) | exact H
  have Ny287 := Aside0.mk hy287
  clear hy287
  obtain ⟨ji35, hji35⟩ : ∃ j_ : Int, (wrap64 (a1 + 1)) = j_ := ⟨_, rfl⟩
  replace H : (if 0 ≤ (ji35) then (if (ji35) ≤ (l0.length : Int) then ((some (l0.drop ((ji35) : Int).toNat : List (S35))).bind fun y290 => (if y287.length + y290.length < 5864062014805 then (some ((y287 ++ y290), true)) else (none))) else (none)) else (none)) = some (r1, r2) := by first | (rw [hji35] at H; exact H) | (simp only [hji35] at H ⊢; exact H)
  (try rw [hji35] at A28)
  have hji35w : (IntKind.i64.wrap (a1 + 1)) = ji35 := (i64_w _).trans hji35
  by_cases c36 : 0 ≤ (ji35)
  rotate_left
  ·
   rw [if_neg c36] at H
   exact absurd H (by simp)
  rw [if_pos c36] at H
  have c36b0 := eq_true c36
  have c36b1 : decide (0 ≤ (ji35)) = true := decide_eq_true c36
  clear c36
  by_cases c37 : (ji35) ≤ (l0.length : Int)
  rotate_left
  ·
   rw [if_neg c37] at H
   exact absurd H (by simp)
  rw [if_pos c37] at H
  have c37b0 := eq_true c37
  have c37b1 : decide ((ji35) ≤ (l0.length : Int)) = true := decide_eq_true c37
  clear c37
  obtain ⟨y290, hy290⟩ : ∃ y_ : List (S35), y_ = (l0.drop ((ji35) : Int).toNat) := ⟨_, rfl⟩
  replace H : (if y287.length + y290.length < 5864062014805 then (some ((y287 ++ y290), true)) else (none)) = some (r1, r2) := by first | (rw [hy290]; with_reducible exact H) | (have H2_ := (Option.bind_some _ _).symm.trans H; rw [hy290]; with_reducible exact H2_) | (have H2_ := (Option.bind_some _ _).symm.trans H; with_reducible exact H2_) | with_reducible exact H | (rw [hy290]; exact H) | exact H
  have Ny290 := Aside0.mk hy290
  clear hy290
  by_cases c38 : y287.length + y290.length < 5864062014805
  rotate_left
  ·
   rw [if_neg c38] at H
   exact absurd H (by simp)
  rw [if_pos c38] at H
  have LMc38 := Aside0.mk c38
  clear c38
  obtain ⟨y294, hy294⟩ : ∃ y_ : List (S35), y_ = (y287 ++ y290) := ⟨_, rfl⟩
  replace H : (some (y294, true)) = some (r1, r2) := by first | (rw [hy294]; with_reducible exact H) | (have H2_ := (Option.bind_some _ _).symm.trans H; rw [hy294]; with_reducible exact H2_) | (have H2_ := (Option.bind_some _ _).symm.trans H; with_reducible exact H2_) | with_reducible exact H | (rw [hy294]; exact H) | exact H
  have Ny294 := Aside0.mk hy294
  clear hy294
  simp only [Option.some.injEq, Prod.mk.injEq] at H
  obtain ⟨rfl, rfl⟩ := H
  have p265 : 0 ≤ (a1 : Int) := zu
  have q265 : a1 < (l0.length : Int) := zu
  obtain ⟨ad265, e265, hx265_0, hx265_1, hx265_2⟩ := at_T35 HR0.out a1 p265 q265
  cases e265
  replace hx265_0 := zw HB hx265_0
  replace hx265_1 := zw HB hx265_1
  replace hx265_2 := zw HB hx265_2
  replace p265 := eq_true p265
  replace q265 := eq_true q265
  try go_wp2_with (first | ((with_reducible refine gate_callee (f := 30) rfl ?_); refine goesL_ (some 48) rfl rfl Try.func30 (by kernel_rfl) rfl #[.int .i64 ((rd_T35 l0 a1).f1), .int .i64 a2] rfl (by (try simp only [qj, qk, ql]); first | done | rfl | (simp only [qm, qn]; rfl)) ?_; (with_reducible refine (darningref4_Takes.calls kj3 ((rd_T35 l0 a1).f1) a2 t266 _ A28.out).mono ?_); rintro e w' ⟨rfl, ⟨nd, rfl⟩⟩; refine ⟨_, rfl, ?_⟩))
  (try (rw [drewN_self wc]; generalize hq_ : World.drewN wc _ = wc; have n0_ : Aside0 (Below w.heap.size w wc) := ⟨by rw [← hq_]; exact (zB HB)⟩; clear HB hq_; have HB := n0_; clear n0_))
  have n0_ := Aside0.mk (qf HB.out)
  clear HB
  have HB := n0_
  clear n0_
  have q40 : (a1 : Int) ≤ ((l0.length : Int) : Int) := zu
  obtain ⟨i040, hi040, _, hsz40, _⟩ := info_parts info35
  have hroom40 : l0.length ≤ c0 := HC0.out
  have hC40 : Kd.C k35 _ (some ad265) l0.length l0 := HR0.out
  have hcut40 := cut_to (P := Try.prog) 22 35 .i64 Try.underlying22 hi040 (some ad265) l0.length c0 a1 (zu) q40 hroom40
  have hr40 := Kd.C_take (m := (a1 : Int).toNat) hC40 (by omega)
  have hy40 : y267.length = (a1 : Int).toNat := (by rw [Ny267.out, qn]; omega)
  rw [← Ny267.out] at hr40
  rw [← hy40] at hcut40
  have HR270 := Aside0.mk hr40
  have HC270 := Aside0.mk (show y267.length ≤ c0 from by omega)
  clear hr40 hC40 hroom40 hi040 hsz40
  have KY40 := Aside0.mk hy40
  clear hy40
  replace q40 := eq_true q40
  have p274 : 0 ≤ (a1 : Int) := zu
  have q274 : a1 < (l0.length : Int) := zu
  obtain ⟨ad274, e274, hx274_0, hx274_1, hx274_2⟩ := at_T35 HR0.out a1 p274 q274
  have hw274_2 := hx274_2
  have hw274_1 := hx274_1
  have hw274_0 := hx274_0
  obtain rfl : ad265 = ad274 := (by injection e274)
  replace hx274_0 := zw HB hx274_0
  replace hx274_1 := zw HB hx274_1
  replace hx274_2 := zw HB hx274_2
  replace p274 := eq_true p274
  replace q274 := eq_true q274
  refine start_ (n := 14) (S := fun w' => w'.cell? (ad265.add ((a1).toNat * 3)) = some (.int .i64 ((rd_T35 l0 a1).f0)) ∧ w'.cell? ⟨(ad265.add ((a1).toNat * 3)).block, (ad265.add ((a1).toNat * 3)).off + 1, none⟩ = some (.int .i64 ((rd_T35 l0 a1).f1)) ∧ w'.cell? ⟨(ad265.add ((a1).toNat * 3)).block, (ad265.add ((a1).toNat * 3)).off + 2, none⟩ = some (.bool ((rd_T35 l0 a1).f2))) (ds := []) (onA 14 0) (by kernel_rfl) rfl rfl ⟨(zw HB hw274_0), (zw HB hw274_1), (zw HB hw274_2)⟩ (fun hHeld => ?_); refine with_tabW darningref4_Carved.tab4 darningref4_Carved.bits4 (fun HT_ HW_ => ?_)
  generalize wc.drew = w39 at HB HR270 hx274_0 hx274_1 hx274_2 hHeld ⊢
  refine pu 0 (some 49) (onA 14 1) HT_ (h := ?_)
  refine pu 1 (some 50) (onA 14 2) HT_ (h := ?_)
  refine pu 2 (some 51) (onA 14 3) HT_ (h := ?_)
  refine pu 4 (some 53) #[tt_,tt_,tt_,ff_,tt_,ff_,ff_,ff_,ff_,ff_,ff_,ff_,ff_,ff_] HT_ (h := ?_)
  refine pu 5 (some 54) #[tt_,tt_,tt_,ff_,tt_,tt_,ff_,ff_,ff_,ff_,ff_,ff_,ff_,ff_] HT_ (h := ?_)
  refine pu 6 (some 55) #[tt_,tt_,tt_,ff_,tt_,tt_,tt_,ff_,ff_,ff_,ff_,ff_,ff_,ff_] HT_ (h := ?_)
  refine pu 7 (some 56) #[tt_,tt_,tt_,ff_,tt_,tt_,tt_,tt_,ff_,ff_,ff_,ff_,ff_,ff_] HT_ (h := ?_)
  refine pu 9 (some 58) #[tt_,tt_,tt_,ff_,tt_,tt_,tt_,tt_,ff_,tt_,ff_,ff_,ff_,ff_] HT_ (h := ?_)
  refine take_ (i := 8) (N := some 57) (v := ?_) (a' := ?_) #[tt_,tt_,tt_,ff_,tt_,tt_,tt_,tt_,tt_,tt_,ff_,ff_,ff_,ff_] rfl rfl (take_ofW HT_.out HW_.out (by kernel_rfl)) (fun _ _ _ h => h) (Or.inl ⟨by rfl, ?_⟩) hHeld ?_ ?_
  rotate_left
  ·
   rintro w' ⟨s0, s1, s2⟩
   go_simp
   with_reducible rfl
  rotate_left
  ·
   simp only [Act.put, qg, qh, qi, i64_w, i32_w]
   rfl
  refine pu 10 (some 59) #[tt_,tt_,tt_,ff_,tt_,tt_,tt_,tt_,tt_,tt_,tt_,ff_,ff_,ff_] HT_ (h := ?_)
  refine join_ (σ := Value × Value) 2 (onA 14 12) (fun s_ => [(52, s_.1), (60, s_.2)]) (fun s_ w' => (w'.cell? (ad265.add ((a1).toNat * 3)) = some (.int .i64 ((rd_T35 l0 a1).f0)) ∧ w'.cell? ⟨(ad265.add ((a1).toNat * 3)).block, (ad265.add ((a1).toNat * 3)).off + 1, none⟩ = some (.int .i64 ((rd_T35 l0 a1).f1)) ∧ w'.cell? ⟨(ad265.add ((a1).toNat * 3)).block, (ad265.add ((a1).toNat * 3)).off + 2, none⟩ = some (.bool ((rd_T35 l0 a1).f2))) ∧ (Kd.R k35 35 w' w.heap.size (fun k_ => some k_ ≠ (s_.2 : Value).ownBlock) s_.1 y271) ∧ (Kd.R k35 35 w' w.heap.size (fun k_ => some k_ ≠ (s_.1 : Value).ownBlock) s_.2 y275) ∧ (Below w.heap.size w w')) ?_ ?_
  rotate_left
  ·
   intro hCont
   refine two_ (i := 3) (j := 11) (Ni := some 52) (Nj := some 60) (onA 14 11) #[tt_,tt_,tt_,ff_,tt_,tt_,tt_,tt_,tt_,tt_,tt_,tt_,ff_,ff_] rfl rfl rfl rfl (two_of HT_.out (by kernel_rfl)) (by decide) (by decide) (fun K hK => ?_) (fun K hK => ?_)
   ·
    skip
    refine Kd.R_append_rows_step k35 (w0 := w) w.heap.size (by rfl) (.const (.slice none 0 0)) (.tmp 51) 22 35 (.agg #[(.int .i64 0), (.int .i64 0), (.bool false)]) 24 rfl Try.underlying22 info35 rfl (by decide) (by omega) (.slice none 0 0) ([] : List (S35)) y267 _ _ _ (fun _ => True) (fun _ => False) rfl rfl ?aO ?aR (fun _ _ h => h) (fun _ h => h.elim) ?aF ?aB ?aS ?aL ?_
    (case aR => repeat (first | exact (Kd.C_below HR270.out HB.out) | (with_reducible refine qr ?_ _) | (with_reducible refine qs ?_ _) | (with_reducible refine qt ?_)))
    (case aB => exact (zB HB))
    (case aF => exact (fun _ _ => trivial))
    (case aO => exact ((Kd.R_nil _ _ _ _ (fun _ => True))))
    (case aS => exact (below_size (zB HB)))
    (case aL => have := LMc31.out; omega)
    intro v272 w41 ho hb hg hat
    rw [← Ny271.out] at ho
    have n0_ := Aside0.mk (hb)
    have n1_ := Aside0.mk (ho)
    clear HB
    have HB := n0_
    have HO273 := n1_
    clear n0_ n1_
    clear ho hb hg hat
    refine hK.out _ _ ⟨(zw HB hw274_0), (zw HB hw274_1), (zw HB hw274_2)⟩ (fun hHeld => ?_)
    clear hK K
    refine norm_ (a' := ?_) ?_ ?_
    rotate_left
    ·
     show Act.put _ (some 52) _ = _
     simp only [Act.put, qg, qh, qi, i64_w, i32_w]
     rfl
    refine one_ (i := 11) (N := some 60) (onA 14 12) rfl rfl (one_of HT_.out (by kernel_rfl)) (by decide) (fun K hK => ?_)
    refine Kd.R_lit_step k35 _ 35 ?hg (N := 60) ?hd (xs := ([(⟨(rd_T35 l0 a1).f0, t266, true⟩ : S35)] : List (S35))) (inner := [.int .i64 ((rd_T35 l0 a1).f0), .int .i64 t266, .bool true]) (ok := fun _ => True) (okp := fun _ => True) ?hr ?hp (fun _ hk => hk) trivial (Below.refl _ _) (Nat.le_refl _) (by simp) ?_; (case hd => rfl); (case hg => rfl); (case hr => first | (go_simp; done) | (go_simp; rfl)); (case hp => exact (Reps.c3 (show Kd.M k35 _ _ _ (⟨(rd_T35 l0 a1).f0, t266, true⟩ : S35) [.int .i64 ((rd_T35 l0 a1).f0), .int .i64 t266, .bool true] from (k35_mkM _ _ _ (⟨(rd_T35 l0 a1).f0, t266, true⟩ : S35) )) (Reps.none _ _)))
    intro v276 w42 ho43 hb hg_ hnew_
    clear hg_ hnew_
    (first | rw [← Ny275.out] at ho43 | (simp only [Int.reduceToNat] at ho43; rw [← Ny275.out] at ho43))
    have n0_ := Aside0.mk (Kd.R_elder' (zr HO273) (Kd.R_base ho43) hb)
    have n1_ := Aside0.mk (Kd.R_lower (Kd.R_new' ho43 (Kd.R_lt (zr HO273))) (below_size (zB HB)))
    have n2_ := zb HB hb
    clear HO273
    clear HB
    have HO273 := n0_
    have HO277 := n1_
    have HB := n2_
    clear n0_ n1_ n2_
    clear hb ho43
    refine hK.out _ _ ⟨(zw HB hw274_0), (zw HB hw274_1), (zw HB hw274_2)⟩ (fun hHeld => ?_)
    clear hK K
    refine norm_ (a' := ?_) ?_ ?_
    rotate_left
    ·
     show Act.put _ (some 60) _ = _
     simp only [Act.put, qg, qh, qi, i64_w, i32_w]
     rfl
    exact norm_ (by simp only [putAll, Act.put, qg, qh, qi]) (hCont (v272, v276) _ ⟨hHeld, (by (with_reducible repeat (first | apply qa | apply qb | apply qc)); exact Kd.R_mono HO273.out (fun _ hk => hk.2)), (by (with_reducible repeat (first | apply qa | apply qb | apply qc)); exact Kd.R_mono HO277.out (fun _ hk => hk.2)), (zB HB)⟩)
   ·
    skip
    refine Kd.R_lit_step k35 _ 35 ?hg (N := 60) ?hd (xs := ([(⟨(rd_T35 l0 a1).f0, t266, true⟩ : S35)] : List (S35))) (inner := [.int .i64 ((rd_T35 l0 a1).f0), .int .i64 t266, .bool true]) (ok := fun _ => True) (okp := fun _ => True) ?hr ?hp (fun _ hk => hk) trivial (Below.refl _ _) (Nat.le_refl _) (by simp) ?_; (case hd => rfl); (case hg => rfl); (case hr => first | (go_simp; done) | (go_simp; rfl)); (case hp => exact (Reps.c3 (show Kd.M k35 _ _ _ (⟨(rd_T35 l0 a1).f0, t266, true⟩ : S35) [.int .i64 ((rd_T35 l0 a1).f0), .int .i64 t266, .bool true] from (k35_mkM _ _ _ (⟨(rd_T35 l0 a1).f0, t266, true⟩ : S35) )) (Reps.none _ _)))
    intro v276 w41 ho42 hb hg_ hnew_
    clear hg_ hnew_
    (first | rw [← Ny275.out] at ho42 | (simp only [Int.reduceToNat] at ho42; rw [← Ny275.out] at ho42))
    have n0_ := Aside0.mk (Kd.R_lower ho42 (below_size (zB HB)))
    have n1_ := zb HB hb
    clear HB
    have HO277 := n0_
    have HB := n1_
    clear n0_ n1_
    clear hb ho42
    refine hK.out _ _ ⟨(zw HB hw274_0), (zw HB hw274_1), (zw HB hw274_2)⟩ (fun hHeld => ?_)
    clear hK K
    refine norm_ (a' := ?_) ?_ ?_
    rotate_left
    ·
     show Act.put _ (some 60) _ = _
     simp only [Act.put, qg, qh, qi, i64_w, i32_w]
     rfl
    refine one_ (i := 3) (N := some 52) (onA 14 12) rfl rfl (one_of HT_.out (by kernel_rfl)) (by decide) (fun K hK => ?_)
    refine Kd.R_append_rows_step k35 (w0 := w) w.heap.size (by rfl) (.const (.slice none 0 0)) (.tmp 51) 22 35 (.agg #[(.int .i64 0), (.int .i64 0), (.bool false)]) 24 rfl Try.underlying22 info35 rfl (by decide) (by omega) (.slice none 0 0) ([] : List (S35)) y267 _ _ _ (fun k_ => some k_ ≠ (v276 : Value).ownBlock) (fun _ => False) rfl rfl ?aO ?aR (fun _ _ h => h) (fun _ h => h.elim) ?aF ?aB ?aS ?aL ?_
    (case aR => repeat (first | exact (Kd.C_below HR270.out HB.out) | (with_reducible refine qr ?_ _) | (with_reducible refine qs ?_ _) | (with_reducible refine qt ?_)))
    (case aB => exact (zB HB))
    (case aF => exact (fun k_ hk => Kd.fresh' (Kd.R_lt (zr HO277)) k_ hk))
    (case aO => exact ((Kd.R_nil _ _ _ _ (fun k_ => some k_ ≠ (v276 : Value).ownBlock))))
    (case aS => exact (below_size (zB HB)))
    (case aL => have := LMc31.out; omega)
    intro v272 w43 ho hb hg hat
    rw [← Ny271.out] at ho
    have n0_ := Aside0.mk (Kd.R_after (Kd.R_apart_nil (zr HO277)) hg hat)
    have n1_ := Aside0.mk (hb)
    have n2_ := Aside0.mk (ho)
    clear HO277
    clear HB
    have HO277 := n0_
    have HB := n1_
    have HO273 := n2_
    clear n0_ n1_ n2_
    clear ho hb hg hat
    refine hK.out _ _ ⟨(zw HB hw274_0), (zw HB hw274_1), (zw HB hw274_2)⟩ (fun hHeld => ?_)
    clear hK K
    refine norm_ (a' := ?_) ?_ ?_
    rotate_left
    ·
     show Act.put _ (some 52) _ = _
     simp only [Act.put, qg, qh, qi, i64_w, i32_w]
     rfl
    exact norm_ (by simp only [putAll, Act.put, qg, qh, qi]) (hCont (v272, v276) _ ⟨hHeld, (zr HO273), (by (with_reducible repeat (first | apply qa | apply qb | apply qc)); exact Kd.R_mono HO277.out (fun _ hk => hk.2)), (zB HB)⟩)
  rintro ⟨v272, v276⟩ w44 ⟨hS_, h0_, h1_, h2_⟩
  have n0_ : Aside0 (Kd.R k35 35 w44 w.heap.size (fun k_ => some k_ ≠ (v276 : Value).ownBlock) v272 y271) := ⟨h0_⟩
  have n1_ : Aside0 (Kd.R k35 35 w44 w.heap.size (fun k_ => some k_ ≠ (v272 : Value).ownBlock) v276 y275) := ⟨h1_⟩
  have n2_ : Aside0 (Below w.heap.size w w44) := ⟨h2_⟩
  clear HB
  clear h0_ h1_ h2_
  have HO273 := n0_
  have HO277 := n1_
  have HB := n2_
  clear n0_ n1_ n2_
  have hHeld : w44.cell? (ad265.add ((a1).toNat * 3)) = some (.int .i64 ((rd_T35 l0 a1).f0)) ∧ w44.cell? ⟨(ad265.add ((a1).toNat * 3)).block, (ad265.add ((a1).toNat * 3)).off + 1, none⟩ = some (.int .i64 ((rd_T35 l0 a1).f1)) ∧ w44.cell? ⟨(ad265.add ((a1).toNat * 3)).block, (ad265.add ((a1).toNat * 3)).off + 2, none⟩ = some (.bool ((rd_T35 l0 a1).f2)) := hS_
  obtain ⟨Ao46, co46, eo46⟩ := Kd.R_slice HO277.out
  (first | subst eo46 | (injection eo46 with f1_ f2_ f3_; have f4_ := f1_.symm; have f5_ := f3_.symm; clear f1_ f2_ f3_; subst f4_; subst f5_))
  refine norm_ (a' := ?_) ?_ ?_
  rotate_left
  ·
   simp only [putAll, Act.put, qg, qh, qi]
   rfl
  refine one_ (i := 12) (N := some 61) (onA 14 13) rfl rfl (one_of HT_.out (by kernel_rfl)) (by decide) (fun K hK => ?_)
  refine Kd.R_append_rows_step k35 (w0 := w) w.heap.size (by rfl) (.tmp 52) (.tmp 60) 22 35 (.agg #[(.int .i64 0), (.int .i64 0), (.bool false)]) 24 rfl Try.underlying22 info35 rfl (by decide) (by omega) v272 y271 y275 _ _ _ (fun k_ => some k_ ≠ (.slice Ao46 y275.length co46 : Value).ownBlock) (fun _ => False) rfl rfl ?aO ?aR (fun _ _ h => h) (fun _ h => h.elim) ?aF ?aB ?aS ?aL ?_
  (case aR => repeat (first | exact (Kd.R_reads' HO277.out).2.2 | (with_reducible refine qr ?_ _) | (with_reducible refine qs ?_ _) | (with_reducible refine qt ?_)))
  (case aB => exact (zB HB))
  (case aF => exact (fun k_ hk => Kd.fresh' (Kd.R_lt (zr HO277)) k_ hk))
  (case aO => exact (zr HO273))
  (case aS => exact (below_size (zB HB)))
  (case aL => have := LMc32.out; omega)
  intro v279 w45 ho hb hg hat
  rw [← Ny278.out] at ho
  have n0_ := Aside0.mk (Kd.R_after (ok := (fun _ => True)) (by (with_reducible repeat (first | apply qa | apply qb | apply qc)); exact Kd.R_mono HO277.out (fun _ hk => ⟨trivial, hk⟩)) hg hat)
  have n1_ := Aside0.mk (hb)
  have n2_ := Aside0.mk (ho)
  clear HO277
  clear HB
  clear HO273
  have HO277 := n0_
  have HB := n1_
  have HO280 := n2_
  clear n0_ n1_ n2_
  clear ho hb hg hat
  refine hK.out _ _ ⟨(zw HB hw274_0), (zw HB hw274_1), (zw HB hw274_2)⟩ (fun hHeld => ?_)
  clear hK K
  refine norm_ (a' := ?_) ?_ ?_
  rotate_left
  ·
   show Act.put _ (some 61) _ = _
   simp only [Act.put, qg, qh, qi, i64_w, i32_w]
   rfl
  refine pu 13 (some 9) (onA 14 14) HT_ (h := ?_)
  refine done_ (done_of HT_.out (by kernel_rfl)) ?_
  have p281 : 0 ≤ (a1 : Int) := zu
  have q281 : a1 < (l0.length : Int) := zu
  obtain ⟨ad281, e281, hx281_0, hx281_1, hx281_2⟩ := at_T35 HR0.out a1 p281 q281
  obtain rfl : ad265 = ad281 := (by injection e281)
  replace hx281_0 := zw HB hx281_0
  replace hx281_1 := zw HB hx281_1
  replace hx281_2 := zw HB hx281_2
  replace p281 := eq_true p281
  replace q281 := eq_true q281
  try go_wp2
  have n0_ := Aside0.mk (qc HO277.out)
  have n1_ := Aside0.mk (qc HO280.out)
  have n2_ := Aside0.mk (qf HB.out)
  clear HO277
  clear HO280
  clear HB
  have HO277 := n0_
  have HO280 := n1_
  have HB := n2_
  clear n0_ n1_ n2_
  have p282 : 0 ≤ (a1 : Int) := zu
  have q282 : a1 < (l0.length : Int) := zu
  obtain ⟨ad282, e282, hx282_0, hx282_1, hx282_2⟩ := at_T35 HR0.out a1 p282 q282
  have hw282_2 := hx282_2
  have hw282_1 := hx282_1
  have hw282_0 := hx282_0
  obtain rfl : ad265 = ad282 := (by injection e282)
  replace hx282_0 := zw HB hx282_0
  replace hx282_1 := zw HB hx282_1
  replace hx282_2 := zw HB hx282_2
  replace p282 := eq_true p282
  replace q282 := eq_true q282
  have p283 : 0 ≤ (a1 : Int) := zu
  have q283 : a1 < (l0.length : Int) := zu
  obtain ⟨ad283, e283, hx283_0, hx283_1, hx283_2⟩ := at_T35 HR0.out a1 p283 q283
  have hw283_2 := hx283_2
  have hw283_1 := hx283_1
  have hw283_0 := hx283_0
  obtain rfl : ad265 = ad283 := (by injection e283)
  replace hx283_0 := zw HB hx283_0
  replace hx283_1 := zw HB hx283_1
  replace hx283_2 := zw HB hx283_2
  replace p283 := eq_true p283
  replace q283 := eq_true q283
  refine start_ (n := 19) (S := fun w' => w'.cell? (ad265.add ((a1).toNat * 3)) = some (.int .i64 ((rd_T35 l0 a1).f0)) ∧ w'.cell? ⟨(ad265.add ((a1).toNat * 3)).block, (ad265.add ((a1).toNat * 3)).off + 1, none⟩ = some (.int .i64 ((rd_T35 l0 a1).f1)) ∧ w'.cell? ⟨(ad265.add ((a1).toNat * 3)).block, (ad265.add ((a1).toNat * 3)).off + 2, none⟩ = some (.bool ((rd_T35 l0 a1).f2)) ∧ w'.cell? (ad265.add ((a1).toNat * 3)) = some (.int .i64 ((rd_T35 l0 a1).f0)) ∧ w'.cell? ⟨(ad265.add ((a1).toNat * 3)).block, (ad265.add ((a1).toNat * 3)).off + 1, none⟩ = some (.int .i64 ((rd_T35 l0 a1).f1)) ∧ w'.cell? ⟨(ad265.add ((a1).toNat * 3)).block, (ad265.add ((a1).toNat * 3)).off + 2, none⟩ = some (.bool ((rd_T35 l0 a1).f2))) (ds := []) (onA 19 0) (by kernel_rfl) rfl rfl ⟨(zw HB hw282_0), (zw HB hw282_1), (zw HB hw282_2), (zw HB hw283_0), (zw HB hw283_1), (zw HB hw283_2)⟩ (fun hHeld => ?_); refine with_tabW darningref4_Carved.tab6 darningref4_Carved.bits6 (fun HT_ HW_ => ?_)
  generalize w45.drew = w47 at HO277 HO280 HB hx282_0 hx282_1 hx282_2 hx283_0 hx283_1 hx283_2 hHeld ⊢
  refine pu 0 (some 69) (onA 19 1) HT_ (h := ?_)
  refine pu 1 (some 70) (onA 19 2) HT_ (h := ?_)
  refine pu 2 (some 71) (onA 19 3) HT_ (h := ?_)
  refine pu 3 (some 72) (onA 19 4) HT_ (h := ?_)
  refine pu 4 (some 73) (onA 19 5) HT_ (h := ?_)
  refine pu 6 (some 75) #[tt_,tt_,tt_,tt_,tt_,ff_,tt_,ff_,ff_,ff_,ff_,ff_,ff_,ff_,ff_,ff_,ff_,ff_,ff_] HT_ (h := ?_)
  refine pu 8 (some 77) #[tt_,tt_,tt_,tt_,tt_,ff_,tt_,ff_,tt_,ff_,ff_,ff_,ff_,ff_,ff_,ff_,ff_,ff_,ff_] HT_ (h := ?_)
  refine pu 9 (some 78) #[tt_,tt_,tt_,tt_,tt_,ff_,tt_,ff_,tt_,tt_,ff_,ff_,ff_,ff_,ff_,ff_,ff_,ff_,ff_] HT_ (h := ?_)
  refine pu 10 (some 79) #[tt_,tt_,tt_,tt_,tt_,ff_,tt_,ff_,tt_,tt_,tt_,ff_,ff_,ff_,ff_,ff_,ff_,ff_,ff_] HT_ (h := ?_)
  refine pu 11 (some 80) #[tt_,tt_,tt_,tt_,tt_,ff_,tt_,ff_,tt_,tt_,tt_,tt_,ff_,ff_,ff_,ff_,ff_,ff_,ff_] HT_ (h := ?_)
  refine pu 13 (some 82) #[tt_,tt_,tt_,tt_,tt_,ff_,tt_,ff_,tt_,tt_,tt_,tt_,ff_,tt_,ff_,ff_,ff_,ff_,ff_] HT_ (h := ?_)
  refine take_ (i := 5) (N := some 74) (v := ?_) (a' := ?_) #[tt_,tt_,tt_,tt_,tt_,tt_,tt_,ff_,tt_,tt_,tt_,tt_,ff_,tt_,ff_,ff_,ff_,ff_,ff_] rfl rfl (take_ofW HT_.out HW_.out (by kernel_rfl)) (fun _ _ _ h => h) (Or.inl ⟨by rfl, ?_⟩) hHeld ?_ ?_
  rotate_left
  ·
   rintro w' ⟨s0, s1, s2, s3, s4, s5⟩
   go_simp
   with_reducible rfl
  rotate_left
  ·
   simp only [Act.put, qg, qh, qi, i64_w, i32_w]
   rfl
  refine pu 7 (some 76) #[tt_,tt_,tt_,tt_,tt_,tt_,tt_,tt_,tt_,tt_,tt_,tt_,ff_,tt_,ff_,ff_,ff_,ff_,ff_] HT_ (h := ?_)
  refine take_ (i := 12) (N := some 81) (v := ?_) (a' := ?_) (onA 19 14) rfl rfl (take_ofW HT_.out HW_.out (by kernel_rfl)) (fun _ _ _ h => h) (Or.inl ⟨by rfl, ?_⟩) hHeld ?_ ?_
  rotate_left
  ·
   rintro w' ⟨s0, s1, s2, s3, s4, s5⟩
   go_simp
   with_reducible rfl
  rotate_left
  ·
   simp only [Act.put, qg, qh, qi, i64_w, i32_w]
   rfl
  refine pu 14 (some 83) (onA 19 15) HT_ (h := ?_)
  refine pu 15 (some 84) (onA 19 16) HT_ (h := ?_)
  refine one_ (i := 16) (N := some 85) (onA 19 17) rfl rfl (one_of HT_.out (by kernel_rfl)) (by decide) (fun K hK => ?_)
  refine Kd.R_lit_step k35 _ 35 ?hg (N := 85) ?hd (xs := ([(⟨wrap64 (((rd_T35 l0 a1).f0) + t266), wrap64 (((rd_T35 l0 a1).f1) - t266), false⟩ : S35)] : List (S35))) (inner := [.int .i64 (wrap64 (((rd_T35 l0 a1).f0) + t266)), .int .i64 (wrap64 (((rd_T35 l0 a1).f1) - t266)), .bool false]) (ok := fun _ => True) (okp := fun _ => True) ?hr ?hp (fun _ hk => hk) trivial (Below.refl _ _) (Nat.le_refl _) (by simp) ?_; (case hd => rfl); (case hg => rfl); (case hr => first | (go_simp; done) | (go_simp; rfl)); (case hp => exact (Reps.c3 (show Kd.M k35 _ _ _ (⟨wrap64 (((rd_T35 l0 a1).f0) + t266), wrap64 (((rd_T35 l0 a1).f1) - t266), false⟩ : S35) [.int .i64 (wrap64 (((rd_T35 l0 a1).f0) + t266)), .int .i64 (wrap64 (((rd_T35 l0 a1).f1) - t266)), .bool false] from (k35_mkM _ _ _ (⟨wrap64 (((rd_T35 l0 a1).f0) + t266), wrap64 (((rd_T35 l0 a1).f1) - t266), false⟩ : S35) )) (Reps.none _ _)))
  intro v285 w48 ho49 hb hg_ hnew_
  clear hg_ hnew_
  (first | rw [← Ny284.out] at ho49 | (simp only [Int.reduceToNat] at ho49; rw [← Ny284.out] at ho49))
  have n0_ := Aside0.mk (Kd.R_elder' (zr HO277) (Kd.R_base ho49) hb)
  have n1_ := Aside0.mk (Kd.R_elder' (zr HO280) (Kd.R_base ho49) hb)
  have n2_ := Aside0.mk (Kd.R_lower (Kd.R_new' (Kd.R_new' ho49 (Kd.R_lt (zr HO277))) (Kd.R_lt (zr HO280))) (below_size (zB HB)))
  have n3_ := zb HB hb
  clear HO277
  clear HO280
  clear HB
  have HO277 := n0_
  have HO280 := n1_
  have HO286 := n2_
  have HB := n3_
  clear n0_ n1_ n2_ n3_
  clear hb ho49
  obtain ⟨Ao51, co51, eo51⟩ := Kd.R_slice HO286.out
  (first | subst eo51 | (injection eo51 with f1_ f2_ f3_; have f4_ := f1_.symm; have f5_ := f3_.symm; clear f1_ f2_ f3_; subst f4_; subst f5_))
  refine hK.out _ _ ⟨(zw HB hw282_0), (zw HB hw282_1), (zw HB hw282_2), (zw HB hw283_0), (zw HB hw283_1), (zw HB hw283_2)⟩ (fun hHeld => ?_)
  clear hK K
  refine norm_ (a' := ?_) ?_ ?_
  rotate_left
  ·
   show Act.put _ (some 85) _ = _
   simp only [Act.put, qg, qh, qi, i64_w, i32_w]
   rfl
  refine one_ (i := 17) (N := some 86) (onA 19 18) rfl rfl (one_of HT_.out (by kernel_rfl)) (by decide) (fun K hK => ?_)
  refine Kd.R_append_rows_step k35 (w0 := w) w.heap.size (by rfl) (.tmp 69) (.tmp 85) 22 35 (.agg #[(.int .i64 0), (.int .i64 0), (.bool false)]) 24 rfl Try.underlying22 info35 rfl (by decide) (by omega) v279 y278 y284 _ _ _ (fun k_ => some k_ ≠ (.slice Ao46 y275.length co46 : Value).ownBlock ∧ some k_ ≠ (.slice Ao51 y284.length co51 : Value).ownBlock) (fun _ => False) rfl rfl ?aO ?aR (fun _ _ h => h) (fun _ h => h.elim) ?aF ?aB ?aS ?aL ?_
  (case aR => repeat (first | exact (Kd.R_reads' HO286.out).2.2 | (with_reducible refine qr ?_ _) | (with_reducible refine qs ?_ _) | (with_reducible refine qt ?_)))
  (case aB => exact (zB HB))
  (case aF => exact (fun k_ hk => ⟨Kd.fresh' (Kd.R_lt (zr HO277)) k_ hk, Kd.fresh' (Kd.R_lt (zr HO286)) k_ hk⟩))
  (case aO => exact (zr HO280))
  (case aS => exact (below_size (zB HB)))
  (case aL => have := LMc34.out; omega)
  intro v288 w50 ho hb hg hat
  rw [← Ny287.out] at ho
  have n0_ := Aside0.mk (Kd.R_after (ok := (fun k_ => some k_ ≠ (.slice Ao51 y284.length co51 : Value).ownBlock)) (by (with_reducible repeat (first | apply qa | apply qb | apply qc)); exact Kd.R_mono HO277.out (fun _ hk => ⟨hk.2, hk.1.2⟩)) hg hat)
  have n1_ := Aside0.mk (Kd.R_after (ok := (fun k_ => some k_ ≠ (.slice Ao46 y275.length co46 : Value).ownBlock)) (by (with_reducible repeat (first | apply qa | apply qb | apply qc)); exact Kd.R_mono HO286.out (fun _ hk => ⟨hk.1.2, hk.2⟩)) hg hat)
  have n2_ := Aside0.mk (hb)
  have n3_ := Aside0.mk (ho)
  clear HO277
  clear HO286
  clear HB
  clear HO280
  have HO277 := n0_
  have HO286 := n1_
  have HB := n2_
  have HO289 := n3_
  clear n0_ n1_ n2_ n3_
  clear ho hb hg hat
  refine hK.out _ _ ⟨(zw HB hw282_0), (zw HB hw282_1), (zw HB hw282_2), (zw HB hw283_0), (zw HB hw283_1), (zw HB hw283_2)⟩ (fun hHeld => ?_)
  clear hK K
  refine norm_ (a' := ?_) ?_ ?_
  rotate_left
  ·
   show Act.put _ (some 86) _ = _
   simp only [Act.put, qg, qh, qi, i64_w, i32_w]
   rfl
  refine pu 18 (some 9) (onA 19 19) HT_ (h := ?_)
  refine done_ (done_of HT_.out (by kernel_rfl)) ?_
  have q52 : ((ji35) : Int) ≤ ((l0.length : Int) : Int) := zu
  obtain ⟨i052, hi052, _, hsz52, _⟩ := info_parts info35
  have hroom52 : l0.length ≤ c0 := HC0.out
  have hC52 : Kd.C k35 _ (some ad265) l0.length l0 := HR0.out
  have q052 : (0 : Int) ≤ ((ji35) : Int) := zu
  have hcut52 := cut_from (P := Try.prog) 22 35 .i64 Try.underlying22 hi052 3 hsz52 (some ad265) l0.length c0 (ji35) q052 q52
  have hr52 := Kd.C_drop (m := ((ji35) : Int).toNat) (c := c0) hC52 (by omega) hroom52
  obtain ⟨A52, hA52⟩ : ∃ A1, A1 = (if c0 = ((ji35) : Int).toNat then (some ad265) else ((some ad265) : Option Addr).map (·.add (((ji35) : Int).toNat * 3))) := ⟨_, rfl⟩
  obtain ⟨c52, hc52⟩ : ∃ c1, c1 = c0 - ((ji35) : Int).toNat := ⟨_, rfl⟩
  have hy52 : y290.length = l0.length - ((ji35) : Int).toNat := (by rw [Ny290.out, qm] <;> omega)
  rw [show (l0).drop ((ji35) : Int).toNat = y290 from Ny290.out.symm] at hr52
  replace hr52 : Kd.C k35 _ A52 y290.length y290 := (by rw [hA52]; exact hr52)
  rw [← hy52, ← hA52, ← hc52] at hcut52
  have HR293 := Aside0.mk hr52
  have HC293 := Aside0.mk (show y290.length ≤ c52 from by rw [hy52, hc52]; exact Nat.sub_le_sub_right hroom52 _)
  clear hr52 hC52 hroom52 hi052 hsz52 hc52
  have KY52 := Aside0.mk hy52
  have KA52 := Aside0.mk hA52
  clear hy52 hA52
  replace q52 := eq_true q52
  try go_wp2_with (first | ((with_reducible refine gate_builtin (b := .append) (xs := #[.tmp 87, .tmp 91]) rfl ?_); (try (refine gate_guard (by rfl) ?_; dsimp only)); at_builtin; refine Kd.R_append_rows k35 (w0 := w) w.heap.size rfl (.tmp 87) (.tmp 91) 22 35 (.agg #[(.int .i64 0), (.int .i64 0), (.bool false)]) 24 rfl Try.underlying22 info35 rfl (by decide) (by omega) v288 y287 y290 _ _ _ (fun k_ => some k_ ≠ (.slice Ao46 y275.length co46 : Value).ownBlock ∧ some k_ ≠ (.slice Ao51 y284.length co51 : Value).ownBlock) (fun _ => False) rfl rfl ?aO ?aR (fun _ _ h => h) (fun _ h => h.elim) ?aF ?aB ?aS ?aL ?_; (case aR => repeat (first | exact (Kd.C_below HR293.out HB.out) | (with_reducible refine qr ?_ _) | (with_reducible refine qs ?_ _) | (with_reducible refine qt ?_))); (case aB => exact (zB HB)); (case aF => exact (fun k_ hk => ⟨Kd.fresh' (Kd.R_lt (zr HO277)) k_ hk, Kd.fresh' (Kd.R_lt (zr HO286)) k_ hk⟩)); (case aO => exact (zr HO289)); (case aS => exact (below_size (zB HB))); (case aL => have := LMc38.out; omega); intro v295 w53 ho hb hg hat; rw [← Ny294.out] at ho; have n0_ := Aside0.mk (Kd.R_after (ok := (fun k_ => some k_ ≠ (.slice Ao51 y284.length co51 : Value).ownBlock)) (zr HO277) hg hat); have n1_ := Aside0.mk (Kd.R_after (ok := (fun k_ => some k_ ≠ (.slice Ao46 y275.length co46 : Value).ownBlock)) (zr HO286) hg hat); have n2_ := Aside0.mk (hb); have n3_ := Aside0.mk (ho); clear HO277; clear HO286; clear HB; clear HO289; have HO277 := n0_; have HO286 := n1_; have HB := n2_; have HO296 := n3_; clear n0_ n1_ n2_ n3_; clear ho hb hg hat))
  go_ret2
  exact ⟨_, by first | rfl | (simp [errW_none, errW_some] <;> rfl) | (simp only [← hji35]; first | rfl | (simp [errW_none, errW_some] <;> rfl)) | (simp [*, errW_none, errW_some] <;> rfl), by (with_reducible repeat (first | apply qa | apply qb | apply qc)); exact Kd.R_mono HO296.out (fun _ hk => trivial), zB HB⟩

end Go.Proofs.Ytglekonhdjploaa.XImageForms
