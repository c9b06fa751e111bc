-- printed by wip/xprint.py
import Derived.Test.YtglekonhdjploaaXImageFormsx0
import Derived.Test.YtglekonhdjploaaXImageFormsx2
namespace Go.Proofs.Ytglekonhdjploaa.XImageForms
open Go.RowKit Go.Proofs.YtglekonhdjploaaW.PrintWords Go.Proofs.YtglekonhdjploaaW.PrintLast Go.Proofs.YtglekonhdjploaaW.PrintMore
attribute [local go_sem] max2_int min2_int max_two min_two max_three min_three max_four min_four
set_option linter.unusedVariables false
set_option linter.unusedSimpArgs false

/-! ### carve_taken: function 64 -/
def carve_taken.j0 : Nat → List (S35) → Int → Int → Bool → Option ((List (S35)))
 | 0, _, _, _, _ => none
 | k + 1, x0, x1, x2, x31 => if x31 = true then (some ([] : List (S35))) else (if 0 ≤ x1 then (if x1 < (x0.length : Int) then ((fit_Takes.f k ((rd_T35 x0 x1).f1) x2).bind fun t116 => (if t116 = 0 then (some ([] : List (S35))) else ((some (([(⟨(rd_T35 x0 x1).f0, t116, true⟩ : S35)] : List (S35)) : List (S35))).bind fun y117 => (if t116 < ((rd_T35 x0 x1).f1) then (if y117.length < 5864062014805 then (some (y117 ++ [(⟨wrap64 (((rd_T35 x0 x1).f0) + t116), wrap64 (((rd_T35 x0 x1).f1) - t116), false⟩ : S35)])) else (none)) else (some y117))))) else (none)) else (none))
def carve_taken.f (k : Nat) (l0 : List (S35)) (a1 : Int) (a2 : Int) : Option ((List (S35))) := (carve_words.f k l0).bind fun t111 => ((chain_May.f k l0 t111).bind fun t112 => (if t112 = true then (if a1 < 0 then (carve_taken.j0 k l0 a1 a2 true) else (if a1 ≥ (l0.length : Int) then (carve_taken.j0 k l0 a1 a2 true) else (if 0 ≤ a1 then (if a1 < (l0.length : Int) then (carve_taken.j0 k l0 a1 a2 ((rd_T35 l0 a1).f2)) else (none)) else (none)))) else (carve_taken.j0 k l0 a1 a2 true)))
theorem carve_taken.mono_l : ∀ k, (∀ y0 y1 y2 y3, LeO (carve_taken.j0 k y0 y1 y2 y3) (carve_taken.j0 (k + 1) y0 y1 y2 y3))
 | 0 => fun _ _ _ _ r h => by simp [carve_taken.j0] at h
 | k + 1 => by
  have ih0 := carve_taken.mono_l k
  ·
   intro y0 y1 y2 y3
   unfold carve_taken.j0
   repeat' first
   | (with_reducible exact ih0 _ _ _ _)
   | (with_reducible exact carve_words.mono _ _)
   | (with_reducible exact chain_May.mono _ _ _)
   | (with_reducible exact fit_Takes.mono _ _ _)
   | (with_reducible exact LeO.refl _)
   | (with_reducible exact LeO.none _)
   | (with_reducible refine LeO.ite ?_ ?_)
   | (with_reducible refine LeO.bind ?_ (fun _ => ?_))
   | exact ih0 _ _ _ _
   | exact carve_words.mono _ _
   | exact chain_May.mono _ _ _
   | exact fit_Takes.mono _ _ _
   | exact LeO.none _
   | refine LeO.ite ?_ ?_
   | refine LeO.bind ?_ (fun _ => ?_)
theorem carve_taken.mono : ∀ a0 a1 a2 k, LeO (carve_taken.f k a0 a1 a2) (carve_taken.f (k + 1) a0 a1 a2) := by
 intro a0 a1 a2 k
 have ih0 := carve_taken.mono_l k
 unfold carve_taken.f
 repeat' first
   | (with_reducible exact ih0 _ _ _ _)
   | (with_reducible exact carve_words.mono _ _)
   | (with_reducible exact chain_May.mono _ _ _)
   | (with_reducible exact fit_Takes.mono _ _ _)
   | (with_reducible exact LeO.refl _)
   | (with_reducible exact LeO.none _)
   | (with_reducible refine LeO.ite ?_ ?_)
   | (with_reducible refine LeO.bind ?_ (fun _ => ?_))
   | exact ih0 _ _ _ _
   | exact carve_words.mono _ _
   | exact chain_May.mono _ _ _
   | exact fit_Takes.mono _ _ _
   | exact LeO.none _
   | refine LeO.ite ?_ ?_
   | refine LeO.bind ?_ (fun _ => ?_)
set_option maxHeartbeats 8000000 in
set_option maxRecDepth 100000 in
theorem carve_taken.calls (k : Nat) (A0 : Option Addr) (c0 : Nat) (l0 : List (S35)) (a1 : Int) (a2 : Int) (r : List (S35)) (w : World) (hr0 : Kd.C k35 w A0 l0.length l0) (hc0 : l0.length ≤ c0) (h : carve_taken.f k l0 a1 a2 = some r) :
  Calls Try.prog 64 #[.slice A0 l0.length c0, .int .i64 a1, .int .i64 a2] w fun e w' => ∃ v0_ : Value, e = .returned (v0_) ∧ Kd.R k35 35 w' w.heap.size (fun _ => True) v0_ r ∧ Below w.heap.size w w' := by
 have hu35 := Try.underlying35
 have HR0 := Aside0.mk hr0
 have HC0 := Aside0.mk hc0
 clear hr0 hc0
 have HB := Aside0.mk (Below.refl w.heap.size w)
 have H : ((carve_words.f k l0).bind fun t111 => ((chain_May.f k l0 t111).bind fun t112 => (if t112 = true then (if a1 < 0 then (carve_taken.j0 k l0 a1 a2 true) else (if a1 ≥ (l0.length : Int) then (carve_taken.j0 k l0 a1 a2 true) else (if 0 ≤ a1 then (if a1 < (l0.length : Int) then (carve_taken.j0 k l0 a1 a2 ((rd_T35 l0 a1).f2)) else (none)) else (none)))) else (carve_taken.j0 k l0 a1 a2 true)))) = some r := h
 clear h
 have HC4 := Aside0.mk H
 clear H
 go_enter Try.func64, Try.ntmps64
 go_upto_region 1 with (fail)
 go_cut [31] (fun v31 wc => ∃ (kq : Nat) (x31_3 : Bool), v31 = .bool x31_3 ∧ Aside0 (carve_taken.j0 kq l0 a1 a2 x31_3 = some r) ∧ Aside0 (kq ≤ k) ∧ Aside0 (Below w.heap.size w wc))
 case first =>
  have H := HC4.out
  clear HC4
  replace H := Option.bind_eq_some_iff.mp H
  obtain ⟨t111, A50, H⟩ := H
  replace H : ((chain_May.f k l0 t111).bind fun t112 => (if t112 = true then (if a1 < 0 then (carve_taken.j0 k l0 a1 a2 true) else (if a1 ≥ (l0.length : Int) then (carve_taken.j0 k l0 a1 a2 true) else (if 0 ≤ a1 then (if a1 < (l0.length : Int) then (carve_taken.j0 k l0 a1 a2 ((rd_T35 l0 a1).f2)) else (none)) else (none)))) else (carve_taken.j0 k l0 a1 a2 true))) = some r := H
  have A5 := Aside0.mk A50
  clear A50
  replace H := Option.bind_eq_some_iff.mp H
  obtain ⟨t112, A60, H⟩ := H
  replace H : (if t112 = true then (if a1 < 0 then (carve_taken.j0 k l0 a1 a2 true) else (if a1 ≥ (l0.length : Int) then (carve_taken.j0 k l0 a1 a2 true) else (if 0 ≤ a1 then (if a1 < (l0.length : Int) then (carve_taken.j0 k l0 a1 a2 ((rd_T35 l0 a1).f2)) else (none)) else (none)))) else (carve_taken.j0 k l0 a1 a2 true)) = some r := H
  have A6 := Aside0.mk A60
  clear A60
  by_cases c7 : t112 = true
  rotate_left
  ·
   replace c7 := Bool.eq_false_iff.mpr c7
   subst c7
   have H1 : (carve_taken.j0 k l0 a1 a2 true) = some r := by rw [if_neg (show ¬ (false = true) by decide)] at H; exact H
   clear H
   have H := H1
   clear H1
   have H' := Aside0.mk H
   clear H
   go_wp2_with (first | ((with_reducible refine gate_callee (f := 82) rfl ?_); refine goesL_ (some 12) rfl rfl Try.func82 (by kernel_rfl) rfl #[.slice A0 l0.length c0] rfl (by (try simp only [qj, qk, ql]); first | done | rfl | (simp only [qm, qn]; rfl)) ?_; (with_reducible refine (carve_words.calls k _ _ l0 t111 _ ?side1 ?side2 A5.out).mono ?_); (case side1 => exact zc (Kd.C_below HR0.out HB.out)); (case side2 => exact HC0.out); rintro e w18 ⟨rfl, hb⟩; refine ⟨_, rfl, ?_⟩; have n0_ := zb HB hb; replace HB := n0_; clear n0_; (try clear hb)) | ((with_reducible refine gate_callee (f := 36) rfl ?_); refine goesL_ (some 13) rfl rfl Try.func36 (by kernel_rfl) rfl #[.slice A0 l0.length c0, .int .i64 t111] rfl (by (try simp only [qj, qk, ql]); first | done | rfl | (simp only [qm, qn]; rfl)) ?_; (with_reducible refine (chain_May.calls k _ _ l0 t111 false _ ?side1 ?side2 A6.out).mono ?_); (case side1 => exact zc (Kd.C_below HR0.out HB.out)); (case side2 => exact HC0.out); rintro e w19 ⟨rfl, hb⟩; refine ⟨_, rfl, ?_⟩; have n0_ := zb HB hb; replace HB := n0_; clear n0_; (try clear hb)))
   go_meet
   case rel => exact ⟨_, (true), (by first | rfl | (simp; done) | (simp [*]; done)), H', ⟨by first | omega | exact Nat.le_refl _⟩, ⟨zB HB⟩⟩
  subst c7
  have H1 : (if a1 < 0 then (carve_taken.j0 k l0 a1 a2 true) else (if a1 ≥ (l0.length : Int) then (carve_taken.j0 k l0 a1 a2 true) else (if 0 ≤ a1 then (if a1 < (l0.length : Int) then (carve_taken.j0 k l0 a1 a2 ((rd_T35 l0 a1).f2)) else (none)) else (none)))) = some r := by rw [if_pos rfl] at H; exact H
  clear H
  have H := H1
  clear H1
  by_cases c8 : a1 < 0
  ·
   rw [if_pos c8] at H
   have c8b0 : decide (a1 < 0) = true := decide_eq_true c8
   clear c8
   (first | rw [c8b0] | (simp only [i64_w, i32_w]; rw [c8b0]) | skip)
   have H' := Aside0.mk H
   clear H
   go_wp2_with (first | ((with_reducible refine gate_callee (f := 82) rfl ?_); refine goesL_ (some 12) rfl rfl Try.func82 (by kernel_rfl) rfl #[.slice A0 l0.length c0] rfl (by (try simp only [qj, qk, ql]); first | done | rfl | (simp only [qm, qn]; rfl)) ?_; (with_reducible refine (carve_words.calls k _ _ l0 t111 _ ?side1 ?side2 A5.out).mono ?_); (case side1 => exact zc (Kd.C_below HR0.out HB.out)); (case side2 => exact HC0.out); rintro e w9 ⟨rfl, hb⟩; refine ⟨_, rfl, ?_⟩; have n0_ := zb HB hb; replace HB := n0_; clear n0_; (try clear hb)) | ((with_reducible refine gate_callee (f := 36) rfl ?_); refine goesL_ (some 13) rfl rfl Try.func36 (by kernel_rfl) rfl #[.slice A0 l0.length c0, .int .i64 t111] rfl (by (try simp only [qj, qk, ql]); first | done | rfl | (simp only [qm, qn]; rfl)) ?_; (with_reducible refine (chain_May.calls k _ _ l0 t111 true _ ?side1 ?side2 A6.out).mono ?_); (case side1 => exact zc (Kd.C_below HR0.out HB.out)); (case side2 => exact HC0.out); rintro e w10 ⟨rfl, hb⟩; refine ⟨_, rfl, ?_⟩; have n0_ := zb HB hb; replace HB := n0_; clear n0_; (try clear hb)))
   go_meet
   case rel => exact ⟨_, (true), (by first | rfl | (simp; done) | (simp [*]; done)), H', ⟨by first | omega | exact Nat.le_refl _⟩, ⟨zB HB⟩⟩
  rw [if_neg c8] at H
  have c8b0 : decide (a1 < 0) = false := decide_eq_false c8
  clear c8
  (first | rw [c8b0] | (simp only [i64_w, i32_w]; rw [c8b0]) | skip)
  by_cases c11 : a1 ≥ (l0.length : Int)
  ·
   rw [if_pos c11] at H
   have c11b0 : decide ((l0.length : Int) ≤ a1) = true := decide_eq_true c11
   clear c11
   have H' := Aside0.mk H
   clear H
   go_wp2_with (first | ((with_reducible refine gate_callee (f := 82) rfl ?_); refine goesL_ (some 12) rfl rfl Try.func82 (by kernel_rfl) rfl #[.slice A0 l0.length c0] rfl (by (try simp only [qj, qk, ql]); first | done | rfl | (simp only [qm, qn]; rfl)) ?_; (with_reducible refine (carve_words.calls k _ _ l0 t111 _ ?side1 ?side2 A5.out).mono ?_); (case side1 => exact zc (Kd.C_below HR0.out HB.out)); (case side2 => exact HC0.out); rintro e w12 ⟨rfl, hb⟩; refine ⟨_, rfl, ?_⟩; have n0_ := zb HB hb; replace HB := n0_; clear n0_; (try clear hb)) | ((with_reducible refine gate_callee (f := 36) rfl ?_); refine goesL_ (some 13) rfl rfl Try.func36 (by kernel_rfl) rfl #[.slice A0 l0.length c0, .int .i64 t111] rfl (by (try simp only [qj, qk, ql]); first | done | rfl | (simp only [qm, qn]; rfl)) ?_; (with_reducible refine (chain_May.calls k _ _ l0 t111 true _ ?side1 ?side2 A6.out).mono ?_); (case side1 => exact zc (Kd.C_below HR0.out HB.out)); (case side2 => exact HC0.out); rintro e w13 ⟨rfl, hb⟩; refine ⟨_, rfl, ?_⟩; have n0_ := zb HB hb; replace HB := n0_; clear n0_; (try clear hb)))
   go_meet
   case rel => exact ⟨_, (true), (by first | rfl | (simp; done) | (simp [*]; done)), H', ⟨by first | omega | exact Nat.le_refl _⟩, ⟨zB HB⟩⟩
  rw [if_neg c11] at H
  have c11b0 : decide ((l0.length : Int) ≤ a1) = false := decide_eq_false c11
  clear c11
  by_cases c14 : 0 ≤ a1
  rotate_left
  ·
   rw [if_neg c14] at H
   exact absurd H (by simp)
  rw [if_pos c14] at H
  have c14b0 : decide (0 ≤ a1) = true := decide_eq_true c14
  clear c14
  by_cases c15 : a1 < (l0.length : Int)
  rotate_left
  ·
   rw [if_neg c15] at H
   exact absurd H (by simp)
  rw [if_pos c15] at H
  have c15b0 : decide (a1 < (l0.length : Int)) = true := decide_eq_true c15
  clear c15
  have H' := Aside0.mk H
  clear H
  go_wp2_with (first | ((with_reducible refine gate_callee (f := 82) rfl ?_); refine goesL_ (some 12) rfl rfl Try.func82 (by kernel_rfl) rfl #[.slice A0 l0.length c0] rfl (by (try simp only [qj, qk, ql]); first | done | rfl | (simp only [qm, qn]; rfl)) ?_; (with_reducible refine (carve_words.calls k _ _ l0 t111 _ ?side1 ?side2 A5.out).mono ?_); (case side1 => exact zc (Kd.C_below HR0.out HB.out)); (case side2 => exact HC0.out); rintro e w16 ⟨rfl, hb⟩; refine ⟨_, rfl, ?_⟩; have n0_ := zb HB hb; replace HB := n0_; clear n0_; (try clear hb)) | ((with_reducible refine gate_callee (f := 36) rfl ?_); refine goesL_ (some 13) rfl rfl Try.func36 (by kernel_rfl) rfl #[.slice A0 l0.length c0, .int .i64 t111] rfl (by (try simp only [qj, qk, ql]); first | done | rfl | (simp only [qm, qn]; rfl)) ?_; (with_reducible refine (chain_May.calls k _ _ l0 t111 true _ ?side1 ?side2 A6.out).mono ?_); (case side1 => exact zc (Kd.C_below HR0.out HB.out)); (case side2 => exact HC0.out); rintro e w17 ⟨rfl, hb⟩; refine ⟨_, rfl, ?_⟩; have n0_ := zb HB hb; replace HB := n0_; clear n0_; (try clear hb); have p113 : 0 ≤ (a1 : Int) := zu; have q113 : a1 < (l0.length : Int) := zu; obtain ⟨ad113, e113, hx113_0, hx113_1, hx113_2⟩ := at_T35 HR0.out a1 p113 q113; cases e113; replace hx113_0 := zw HB hx113_0; replace hx113_1 := zw HB hx113_1; replace hx113_2 := zw HB hx113_2; replace p113 := eq_true p113; replace q113 := eq_true q113))
  go_meet
  case rel => exact ⟨_, ((rd_T35 l0 a1).f2), (by first | rfl | (simp; done) | (simp [*]; done)), H', ⟨by first | omega | exact Nat.le_refl _⟩, ⟨zB HB⟩⟩
 clear HC4
 try clear c1
 try clear p1
 try clear q1
 try clear hx1
 try clear p2
 try clear c3
 try clear c6
 try clear c7
 try clear c8
 try clear c8b0
 try clear c11
 try clear c11b0
 try clear p11
 try clear q11
 try clear hx11
 try clear c14
 try clear c14b0
 try clear c15
 try clear c15b0
 try clear hx113_0
 try clear hx113_1
 try clear hx113_2
 try clear p113
 try clear q113
 obtain ⟨kq, x31_3, rfl, HA, HJ3, HB⟩ := hcut
 cases kq with
 | zero => exact absurd HA.out (by simp [carve_taken.j0])
 | succ kj3 =>
  have H := HA.out
  clear HA
  simp only [carve_taken.j0] at H
  by_cases c20 : x31_3 = true
  ·
   subst c20
   have H1 : (some ([] : List (S35))) = some r := by rw [if_pos rfl] at H; exact H
   clear H
   have H := H1
   clear H1
   obtain rfl := Option.some.inj H
   go_wp2
   go_ret
   exact ⟨_, by first | rfl | (simp [errW_none, errW_some] <;> rfl) | (simp [*, errW_none, errW_some] <;> rfl), by first | exact Kd.R_nil _ _ _ _ _ | exact Kd.N_nil _ _ _ _ _ | exact Kd.V_nil _ _ _ _ _ | exact Kd.Q_nil _ _ _ _ _ | exact Kd.S_nil _ _ _ _ _, zB HB⟩
  replace c20 := Bool.eq_false_iff.mpr c20
  subst c20
  have H1 : (if 0 ≤ a1 then (if a1 < (l0.length : Int) then ((fit_Takes.f kj3 ((rd_T35 l0 a1).f1) a2).bind fun t116 => (if t116 = 0 then (some ([] : List (S35))) else ((some (([(⟨(rd_T35 l0 a1).f0, t116, true⟩ : S35)] : List (S35)) : List (S35))).bind fun y117 => (if t116 < ((rd_T35 l0 a1).f1) then (if y117.length < 5864062014805 then (some (y117 ++ [(⟨wrap64 (((rd_T35 l0 a1).f0) + t116), wrap64 (((rd_T35 l0 a1).f1) - t116), false⟩ : S35)])) else (none)) else (some y117))))) else (none)) else (none)) = some r := by rw [if_neg (show ¬ (false = true) by decide)] at H; exact H
  clear H
  have H := H1
  clear H1
  by_cases c21 : 0 ≤ a1
  rotate_left
  ·
   rw [if_neg c21] at H
   exact absurd H (by simp)
  rw [if_pos c21] at H
  have c21b0 : decide (0 ≤ a1) = true := decide_eq_true c21
  clear c21
  by_cases c22 : a1 < (l0.length : Int)
  rotate_left
  ·
   rw [if_neg c22] at H
   exact absurd H (by simp)
  rw [if_pos c22] at H
  have c22b0 : decide (a1 < (l0.length : Int)) = true := decide_eq_true c22
  clear c22
  replace H := Option.bind_eq_some_iff.mp H
  obtain ⟨t116, A230, H⟩ := H
  replace H : (if t116 = 0 then (some ([] : List (S35))) else ((some (([(⟨(rd_T35 l0 a1).f0, t116, true⟩ : S35)] : List (S35)) : List (S35))).bind fun y117 => (if t116 < ((rd_T35 l0 a1).f1) then (if y117.length < 5864062014805 then (some (y117 ++ [(⟨wrap64 (((rd_T35 l0 a1).f0) + t116), wrap64 (((rd_T35 l0 a1).f1) - t116), false⟩ : S35)])) else (none)) else (some y117)))) = some r := H
  have A23 := Aside0.mk A230
  clear A230
  by_cases c24 : t116 = 0
  ·
   rw [if_pos c24] at H
   have c24b0 : (t116 == 0) = true := beq_iff_eq.mpr c24
   have c24b1 : (t116 != 0) = false := bne_eq_false_iff_eq.mpr c24
   clear c24
   obtain rfl := Option.some.inj H
   have p114 : 0 ≤ (a1 : Int) := zu
   have q114 : a1 < (l0.length : Int) := zu
   obtain ⟨ad114, e114, hx114_0, hx114_1, hx114_2⟩ := at_T35 HR0.out a1 p114 q114
   cases e114
   replace hx114_0 := zw HB hx114_0
   replace hx114_1 := zw HB hx114_1
   replace hx114_2 := zw HB hx114_2
   replace p114 := eq_true p114
   replace q114 := eq_true q114
   go_wp2_with (first | ((with_reducible refine gate_dst (N := 7) rfl ?_); (try (refine gate_guard (by rfl) ?_; dsimp only)); refine box_event ?hg (N := 7) ?hd (cs := #[.int .i64 0, .int .i64 0, .bool false]) (t := 35) ?hr ?_; (case hd => rfl); (case hg => rfl); (case hr => first | (go_simp; done) | (go_simp; rfl)); intro gb115 hg w25 hbox hb; have n0_ := zb HB hb; have n1_ := Aside0.mk (hbox); have n2_ := Aside0.mk ((by rw [hg]; exact (below_size (zB HB)) : w.heap.size ≤ gb115)); have n3_ := Aside0.mk ((by rw [hg]; exact (below_size (zB HB)) : w.heap.size ≤ gb115)); clear HB; have HB := n0_; have BK115 := n1_; have GW115 := n2_; have GE115 := n3_; clear n0_ n1_ n2_ n3_; clear hb hbox hg; have hcz26_0 : w25.cell? ⟨gb115, 0, none⟩ = some (.int .i64 0) := (blk_cell BK115.out 0).trans rfl; have hcz26_1 : w25.cell? ⟨gb115, 1, none⟩ = some (.int .i64 0) := (blk_cell BK115.out 1).trans rfl; have hcz26_2 : w25.cell? ⟨gb115, 2, none⟩ = some (.bool false) := (blk_cell BK115.out 2).trans rfl; have hfz26_0 := blk_frozen BK115.out 0; have hfz26_1 := blk_frozen BK115.out 1; have hfz26_2 := blk_frozen BK115.out 2) | ((with_reducible refine gate_callee (f := 83) rfl ?_); refine goesL_ (some 39) rfl rfl Try.func83 (by kernel_rfl) rfl #[.int .i64 ((rd_T35 l0 a1).f1), .int .i64 a2] rfl (by (try simp only [qj, qk, ql]); first | done | rfl | (simp only [qm, qn]; rfl)) ?_; (with_reducible refine (fit_Takes.calls kj3 ((rd_T35 l0 a1).f1) a2 t116 _ A23.out).mono ?_); rintro e w' ⟨rfl, ⟨nd, rfl⟩⟩; refine ⟨_, rfl, ?_⟩))
   go_ret
   exact ⟨_, by first | rfl | (simp [errW_none, errW_some] <;> rfl) | (simp [*, errW_none, errW_some] <;> rfl), by first | exact Kd.R_nil _ _ _ _ _ | exact Kd.N_nil _ _ _ _ _ | exact Kd.V_nil _ _ _ _ _ | exact Kd.Q_nil _ _ _ _ _ | exact Kd.S_nil _ _ _ _ _, by repeat (first | (with_reducible first | exact HB.out | apply qd | apply qe | apply qf | refine below_set ?_ GE115.out) | exact HB.out)⟩
  rw [if_neg c24] at H
  have c24b0 : (t116 == 0) = false := beq_eq_false_iff_ne.mpr c24
  have c24b1 : (t116 != 0) = true := bne_iff_ne.mpr c24
  obtain ⟨y117, hy117⟩ : ∃ y_ : List (S35), y_ = (([(⟨(rd_T35 l0 a1).f0, t116, true⟩ : S35)] : List (S35))) := ⟨_, rfl⟩
  replace H : (if t116 < ((rd_T35 l0 a1).f1) then (if y117.length < 5864062014805 then (some (y117 ++ [(⟨wrap64 (((rd_T35 l0 a1).f0) + t116), wrap64 (((rd_T35 l0 a1).f1) - t116), false⟩ : S35)])) else (none)) else (some y117)) = some r := by first | (rw [hy117]; with_reducible exact H) | (have H2_ := (Option.bind_some _ _).symm.trans H; rw [hy117]; with_reducible exact H2_) | (have H2_ := (Option.bind_some _ _).symm.trans H; with_reducible exact H2_) | with_reducible exact H | (rw [hy117]; exact H) | exact H
  have Ny117 := Aside0.mk hy117
  clear hy117
  by_cases c27 : t116 < ((rd_T35 l0 a1).f1)
  rotate_left
  ·
   rw [if_neg c27] at H
   have c27b0 : decide (t116 < ((rd_T35 l0 a1).f1)) = false := decide_eq_false c27
   clear c27
   obtain rfl := Option.some.inj H
   have p114 : 0 ≤ (a1 : Int) := zu
   have q114 : a1 < (l0.length : Int) := zu
   obtain ⟨ad114, e114, hx114_0, hx114_1, hx114_2⟩ := at_T35 HR0.out a1 p114 q114
   cases e114
   replace hx114_0 := zw HB hx114_0
   replace hx114_1 := zw HB hx114_1
   replace hx114_2 := zw HB hx114_2
   replace p114 := eq_true p114
   replace q114 := eq_true q114
   go_wp2_with (first | ((with_reducible refine gate_dst (N := 7) rfl ?_); (try (refine gate_guard (by rfl) ?_; dsimp only)); refine box_event ?hg (N := 7) ?hd (cs := #[.int .i64 0, .int .i64 0, .bool false]) (t := 35) ?hr ?_; (case hd => rfl); (case hg => rfl); (case hr => first | (go_simp; done) | (go_simp; rfl)); intro gb115 hg w35 hbox hb; have n0_ := zb HB hb; have n1_ := Aside0.mk (hbox); have n2_ := Aside0.mk ((by rw [hg]; exact (below_size (zB HB)) : w.heap.size ≤ gb115)); have n3_ := Aside0.mk ((by rw [hg]; exact (below_size (zB HB)) : w.heap.size ≤ gb115)); clear HB; have HB := n0_; have BK115 := n1_; have GW115 := n2_; have GE115 := n3_; clear n0_ n1_ n2_ n3_; clear hb hbox hg; have hcz36_0 : w35.cell? ⟨gb115, 0, none⟩ = some (.int .i64 0) := (blk_cell BK115.out 0).trans rfl; have hcz36_1 : w35.cell? ⟨gb115, 1, none⟩ = some (.int .i64 0) := (blk_cell BK115.out 1).trans rfl; have hcz36_2 : w35.cell? ⟨gb115, 2, none⟩ = some (.bool false) := (blk_cell BK115.out 2).trans rfl; have hfz36_0 := blk_frozen BK115.out 0; have hfz36_1 := blk_frozen BK115.out 1; have hfz36_2 := blk_frozen BK115.out 2) | ((with_reducible refine gate_callee (f := 83) rfl ?_); refine goesL_ (some 39) rfl rfl Try.func83 (by kernel_rfl) rfl #[.int .i64 ((rd_T35 l0 a1).f1), .int .i64 a2] rfl (by (try simp only [qj, qk, ql]); first | done | rfl | (simp only [qm, qn]; rfl)) ?_; (with_reducible refine (fit_Takes.calls kj3 ((rd_T35 l0 a1).f1) a2 t116 _ A23.out).mono ?_); rintro e w' ⟨rfl, ⟨nd, rfl⟩⟩; refine ⟨_, rfl, ?_⟩) | ((with_reducible refine gate_dst (N := 46) rfl ?_); (try (refine gate_guard (by rfl) ?_; dsimp only)); refine Kd.R_lit k35 _ 35 ?hg (N := 46) ?hd (xs := ([(⟨(rd_T35 l0 a1).f0, t116, true⟩ : S35)] : List (S35))) (inner := [.int .i64 ((rd_T35 l0 a1).f0), .int .i64 t116, .bool true]) (ok := fun _ => True) (okp := fun _ => True) ?hr ?hp (fun _ hk => hk) trivial (Below.refl _ _) (Nat.le_refl _) (by simp) ?_; (case hd => rfl); (case hg => rfl); (case hr => first | (go_simp; done) | (go_simp; rfl)); (case hp => exact (Reps.c3 (show Kd.M k35 _ _ _ (⟨(rd_T35 l0 a1).f0, t116, true⟩ : S35) [.int .i64 ((rd_T35 l0 a1).f0), .int .i64 t116, .bool true] from (k35_mkM _ _ _ (⟨(rd_T35 l0 a1).f0, t116, true⟩ : S35) )) (Reps.none _ _))); intro v118 w37 ho38 hb hg_ hnew_; clear hg_ hnew_; (first | rw [← Ny117.out] at ho38 | (simp only [Int.reduceToNat] at ho38; rw [← Ny117.out] at ho38)); have n0_ := Aside0.mk (Kd.R_lower (Kd.R_newB ho38 (g := gb115) (o := .cells #[.int .i64 ((rd_T35 l0 a1).f0), .int .i64 ((rd_T35 l0 a1).f1), .bool ((rd_T35 l0 a1).f2)] 35 (0, 0)) (by (with_reducible repeat (first | refine blk_drewN ?_ _ | refine blk_drew ?_ | refine blk_alloc ?_ _)); refine blk_put (cs := #[.int .i64 ((rd_T35 l0 a1).f0), .int .i64 ((rd_T35 l0 a1).f1), .bool false]) ?_ 2 _ rfl; (with_reducible repeat (first | refine blk_drewN ?_ _ | refine blk_drew ?_ | refine blk_alloc ?_ _)); refine blk_put (cs := #[.int .i64 ((rd_T35 l0 a1).f0), .int .i64 0, .bool false]) ?_ 1 _ rfl; (with_reducible repeat (first | refine blk_drewN ?_ _ | refine blk_drew ?_ | refine blk_alloc ?_ _)); refine blk_put (cs := #[.int .i64 0, .int .i64 0, .bool false]) ?_ 0 _ rfl; (with_reducible repeat (first | refine blk_drewN ?_ _ | refine blk_drew ?_ | refine blk_alloc ?_ _)); exact BK115.out)) (below_size (by repeat (first | (with_reducible first | exact HB.out | apply qd | apply qe | apply qf | refine below_set ?_ GE115.out) | exact HB.out)))); have n1_ := Aside0.mk (blk_below (g := gb115) (o := .cells #[.int .i64 ((rd_T35 l0 a1).f0), .int .i64 ((rd_T35 l0 a1).f1), .bool ((rd_T35 l0 a1).f2)] 35 (0, 0)) (by (with_reducible repeat (first | refine blk_drewN ?_ _ | refine blk_drew ?_ | refine blk_alloc ?_ _)); refine blk_put (cs := #[.int .i64 ((rd_T35 l0 a1).f0), .int .i64 ((rd_T35 l0 a1).f1), .bool false]) ?_ 2 _ rfl; (with_reducible repeat (first | refine blk_drewN ?_ _ | refine blk_drew ?_ | refine blk_alloc ?_ _)); refine blk_put (cs := #[.int .i64 ((rd_T35 l0 a1).f0), .int .i64 0, .bool false]) ?_ 1 _ rfl; (with_reducible repeat (first | refine blk_drewN ?_ _ | refine blk_drew ?_ | refine blk_alloc ?_ _)); refine blk_put (cs := #[.int .i64 0, .int .i64 0, .bool false]) ?_ 0 _ rfl; (with_reducible repeat (first | refine blk_drewN ?_ _ | refine blk_drew ?_ | refine blk_alloc ?_ _)); exact BK115.out) hb); have n2_ := Aside0.mk (qw (by repeat (first | (with_reducible first | exact HB.out | apply qd | apply qe | apply qf | refine below_set ?_ GE115.out) | exact HB.out)) hb); clear BK115; clear HB; have HO119 := n0_; have BK115 := n1_; have HB := n2_; clear n0_ n1_ n2_; clear hb ho38; have hcz39_0 : w37.cell? ⟨gb115, 0, none⟩ = some (.int .i64 ((rd_T35 l0 a1).f0)) := (blk_cell BK115.out 0).trans rfl; have hcz39_1 : w37.cell? ⟨gb115, 1, none⟩ = some (.int .i64 ((rd_T35 l0 a1).f1)) := (blk_cell BK115.out 1).trans rfl; have hcz39_2 : w37.cell? ⟨gb115, 2, none⟩ = some (.bool ((rd_T35 l0 a1).f2)) := (blk_cell BK115.out 2).trans rfl; have hfz39_0 := blk_frozen BK115.out 0; have hfz39_1 := blk_frozen BK115.out 1; have hfz39_2 := blk_frozen BK115.out 2))
   go_ret
   exact ⟨_, by first | rfl | (simp [errW_none, errW_some] <;> rfl) | (simp [*, errW_none, errW_some] <;> rfl), by (with_reducible repeat (first | apply qa | apply qb | apply qc)); exact Kd.R_mono HO119.out (fun _ hk => trivial), by repeat (first | (with_reducible first | exact HB.out | apply qd | apply qe | apply qf | refine below_set ?_ GE115.out) | exact HB.out)⟩
  rw [if_pos c27] at H
  have c27b0 : decide (t116 < ((rd_T35 l0 a1).f1)) = true := decide_eq_true c27
  clear c27
  by_cases c28 : y117.length < 5864062014805
  rotate_left
  ·
   rw [if_neg c28] at H
   exact absurd H (by simp)
  rw [if_pos c28] at H
  have LMc28 := Aside0.mk c28
  clear c28
  obtain ⟨y120, hy120⟩ : ∃ y_ : List (S35), y_ = (y117 ++ [(⟨wrap64 (((rd_T35 l0 a1).f0) + t116), wrap64 (((rd_T35 l0 a1).f1) - t116), false⟩ : S35)]) := ⟨_, rfl⟩
  replace H : (some y120) = some r := by first | (rw [hy120]; with_reducible exact H) | (have H2_ := (Option.bind_some _ _).symm.trans H; rw [hy120]; with_reducible exact H2_) | (have H2_ := (Option.bind_some _ _).symm.trans H; with_reducible exact H2_) | with_reducible exact H | (rw [hy120]; exact H) | exact H
  have Ny120 := Aside0.mk hy120
  clear hy120
  obtain rfl := Option.some.inj H
  have p114 : 0 ≤ (a1 : Int) := zu
  have q114 : a1 < (l0.length : Int) := zu
  obtain ⟨ad114, e114, hx114_0, hx114_1, hx114_2⟩ := at_T35 HR0.out a1 p114 q114
  cases e114
  replace hx114_0 := zw HB hx114_0
  replace hx114_1 := zw HB hx114_1
  replace hx114_2 := zw HB hx114_2
  replace p114 := eq_true p114
  replace q114 := eq_true q114
  go_wp2_with (first | ((with_reducible refine gate_dst (N := 7) rfl ?_); (try (refine gate_guard (by rfl) ?_; dsimp only)); refine box_event ?hg (N := 7) ?hd (cs := #[.int .i64 0, .int .i64 0, .bool false]) (t := 35) ?hr ?_; (case hd => rfl); (case hg => rfl); (case hr => first | (go_simp; done) | (go_simp; rfl)); intro gb115 hg w29 hbox hb; have n0_ := zb HB hb; have n1_ := Aside0.mk (hbox); have n2_ := Aside0.mk ((by rw [hg]; exact (below_size (zB HB)) : w.heap.size ≤ gb115)); have n3_ := Aside0.mk ((by rw [hg]; exact (below_size (zB HB)) : w.heap.size ≤ gb115)); clear HB; have HB := n0_; have BK115 := n1_; have GW115 := n2_; have GE115 := n3_; clear n0_ n1_ n2_ n3_; clear hb hbox hg; have hcz30_0 : w29.cell? ⟨gb115, 0, none⟩ = some (.int .i64 0) := (blk_cell BK115.out 0).trans rfl; have hcz30_1 : w29.cell? ⟨gb115, 1, none⟩ = some (.int .i64 0) := (blk_cell BK115.out 1).trans rfl; have hcz30_2 : w29.cell? ⟨gb115, 2, none⟩ = some (.bool false) := (blk_cell BK115.out 2).trans rfl; have hfz30_0 := blk_frozen BK115.out 0; have hfz30_1 := blk_frozen BK115.out 1; have hfz30_2 := blk_frozen BK115.out 2) | ((with_reducible refine gate_callee (f := 83) rfl ?_); refine goesL_ (some 39) rfl rfl Try.func83 (by kernel_rfl) rfl #[.int .i64 ((rd_T35 l0 a1).f1), .int .i64 a2] rfl (by (try simp only [qj, qk, ql]); first | done | rfl | (simp only [qm, qn]; rfl)) ?_; (with_reducible refine (fit_Takes.calls kj3 ((rd_T35 l0 a1).f1) a2 t116 _ A23.out).mono ?_); rintro e w' ⟨rfl, ⟨nd, rfl⟩⟩; refine ⟨_, rfl, ?_⟩) | ((with_reducible refine gate_dst (N := 46) rfl ?_); (try (refine gate_guard (by rfl) ?_; dsimp only)); refine Kd.R_lit k35 _ 35 ?hg (N := 46) ?hd (xs := ([(⟨(rd_T35 l0 a1).f0, t116, true⟩ : S35)] : List (S35))) (inner := [.int .i64 ((rd_T35 l0 a1).f0), .int .i64 t116, .bool true]) (ok := fun _ => True) (okp := fun _ => True) ?hr ?hp (fun _ hk => hk) trivial (Below.refl _ _) (Nat.le_refl _) (by simp) ?_; (case hd => rfl); (case hg => rfl); (case hr => first | (go_simp; done) | (go_simp; rfl)); (case hp => exact (Reps.c3 (show Kd.M k35 _ _ _ (⟨(rd_T35 l0 a1).f0, t116, true⟩ : S35) [.int .i64 ((rd_T35 l0 a1).f0), .int .i64 t116, .bool true] from (k35_mkM _ _ _ (⟨(rd_T35 l0 a1).f0, t116, true⟩ : S35) )) (Reps.none _ _))); intro v118 w31 ho32 hb hg_ hnew_; clear hg_ hnew_; (first | rw [← Ny117.out] at ho32 | (simp only [Int.reduceToNat] at ho32; rw [← Ny117.out] at ho32)); have n0_ := Aside0.mk (Kd.R_lower (Kd.R_newB ho32 (g := gb115) (o := .cells #[.int .i64 ((rd_T35 l0 a1).f0), .int .i64 ((rd_T35 l0 a1).f1), .bool ((rd_T35 l0 a1).f2)] 35 (0, 0)) (by (with_reducible repeat (first | refine blk_drewN ?_ _ | refine blk_drew ?_ | refine blk_alloc ?_ _)); refine blk_put (cs := #[.int .i64 ((rd_T35 l0 a1).f0), .int .i64 ((rd_T35 l0 a1).f1), .bool false]) ?_ 2 _ rfl; (with_reducible repeat (first | refine blk_drewN ?_ _ | refine blk_drew ?_ | refine blk_alloc ?_ _)); refine blk_put (cs := #[.int .i64 ((rd_T35 l0 a1).f0), .int .i64 0, .bool false]) ?_ 1 _ rfl; (with_reducible repeat (first | refine blk_drewN ?_ _ | refine blk_drew ?_ | refine blk_alloc ?_ _)); refine blk_put (cs := #[.int .i64 0, .int .i64 0, .bool false]) ?_ 0 _ rfl; (with_reducible repeat (first | refine blk_drewN ?_ _ | refine blk_drew ?_ | refine blk_alloc ?_ _)); exact BK115.out)) (below_size (by repeat (first | (with_reducible first | exact HB.out | apply qd | apply qe | apply qf | refine below_set ?_ GE115.out) | exact HB.out)))); have n1_ := Aside0.mk (blk_below (g := gb115) (o := .cells #[.int .i64 ((rd_T35 l0 a1).f0), .int .i64 ((rd_T35 l0 a1).f1), .bool ((rd_T35 l0 a1).f2)] 35 (0, 0)) (by (with_reducible repeat (first | refine blk_drewN ?_ _ | refine blk_drew ?_ | refine blk_alloc ?_ _)); refine blk_put (cs := #[.int .i64 ((rd_T35 l0 a1).f0), .int .i64 ((rd_T35 l0 a1).f1), .bool false]) ?_ 2 _ rfl; (with_reducible repeat (first | refine blk_drewN ?_ _ | refine blk_drew ?_ | refine blk_alloc ?_ _)); refine blk_put (cs := #[.int .i64 ((rd_T35 l0 a1).f0), .int .i64 0, .bool false]) ?_ 1 _ rfl; (with_reducible repeat (first | refine blk_drewN ?_ _ | refine blk_drew ?_ | refine blk_alloc ?_ _)); refine blk_put (cs := #[.int .i64 0, .int .i64 0, .bool false]) ?_ 0 _ rfl; (with_reducible repeat (first | refine blk_drewN ?_ _ | refine blk_drew ?_ | refine blk_alloc ?_ _)); exact BK115.out) hb); have n2_ := Aside0.mk (qw (by repeat (first | (with_reducible first | exact HB.out | apply qd | apply qe | apply qf | refine below_set ?_ GE115.out) | exact HB.out)) hb); clear BK115; clear HB; have HO119 := n0_; have BK115 := n1_; have HB := n2_; clear n0_ n1_ n2_; clear hb ho32; have hcz33_0 : w31.cell? ⟨gb115, 0, none⟩ = some (.int .i64 ((rd_T35 l0 a1).f0)) := (blk_cell BK115.out 0).trans rfl; have hcz33_1 : w31.cell? ⟨gb115, 1, none⟩ = some (.int .i64 ((rd_T35 l0 a1).f1)) := (blk_cell BK115.out 1).trans rfl; have hcz33_2 : w31.cell? ⟨gb115, 2, none⟩ = some (.bool ((rd_T35 l0 a1).f2)) := (blk_cell BK115.out 2).trans rfl; have hfz33_0 := blk_frozen BK115.out 0; have hfz33_1 := blk_frozen BK115.out 1; have hfz33_2 := blk_frozen BK115.out 2) | ((with_reducible refine gate_builtin (b := .append) (xs := #[.tmp 51, .tmp 61]) rfl ?_); (try (refine gate_guard (by rfl) ?_; dsimp only)); at_builtin; refine Kd.R_append k35 (w0 := w) w.heap.size rfl (.tmp 51) (.tmp 61) 22 35 (.agg #[(.int .i64 0), (.int .i64 0), (.bool false)]) 24 rfl Try.underlying22 info35 rfl (by decide) (by omega) v118 y117 (⟨wrap64 (((rd_T35 l0 a1).f0) + t116), wrap64 (((rd_T35 l0 a1).f1) - t116), false⟩ : S35) [.int .i64 (wrap64 (((rd_T35 l0 a1).f0) + t116)), .int .i64 (wrap64 (((rd_T35 l0 a1).f1) - t116)), .bool false] (fun k_ => k_ ≠ gb115) (fun _ => False) rfl rfl ?aP (fun _ hk => hk.elim) ?aF ?aO ?aB ?aS ?aL ?_; (case aP => exact k35_mkM _ _ _ (⟨wrap64 (((rd_T35 l0 a1).f0) + t116), wrap64 (((rd_T35 l0 a1).f1) - t116), false⟩ : S35)); (case aB => exact (by repeat (first | (with_reducible first | exact HB.out | apply qd | apply qe | apply qf | refine below_set ?_ GE115.out) | exact HB.out))); (case aF => exact (fun k_ hk => Kd.freshB (g := gb115) (o := .cells #[.int .i64 ((rd_T35 l0 a1).f0), .int .i64 ((rd_T35 l0 a1).f1), .bool ((rd_T35 l0 a1).f2)] 35 (0, 0)) (by (with_reducible repeat (first | refine blk_drewN ?_ _ | refine blk_drew ?_ | refine blk_alloc ?_ _)); exact BK115.out) k_ hk)); (case aO => exact (by (with_reducible repeat (first | apply qa | apply qb | apply qc)); exact Kd.R_mono HO119.out (fun _ hk => hk.2))); (case aS => exact (below_size (by repeat (first | (with_reducible first | exact HB.out | apply qd | apply qe | apply qf | refine below_set ?_ GE115.out) | exact HB.out)))); (case aL => have := LMc28.out; omega); intro v121 w34 ho hb hg hat; rw [← Ny120.out] at ho; have n0_ := Aside0.mk (blk_grown (g := gb115) (o := .cells #[.int .i64 ((rd_T35 l0 a1).f0), .int .i64 ((rd_T35 l0 a1).f1), .bool ((rd_T35 l0 a1).f2)] 35 (0, 0)) (by (with_reducible repeat (first | refine blk_drewN ?_ _ | refine blk_drew ?_ | refine blk_alloc ?_ _)); exact BK115.out) hg (Kd.R_away HO119.out (fun _ hk => hk.2))); have n1_ := Aside0.mk (hb); have n2_ := Aside0.mk (ho); clear BK115; clear HB; clear HO119; have BK115 := n0_; have HB := n1_; have HO122 := n2_; clear n0_ n1_ n2_; clear ho hb hg hat))
  go_ret
  exact ⟨_, by first | rfl | (simp [errW_none, errW_some] <;> rfl) | (simp [*, errW_none, errW_some] <;> rfl), by (with_reducible repeat (first | apply qa | apply qb | apply qc)); exact Kd.R_mono HO122.out (fun _ hk => trivial), by repeat (first | (with_reducible first | exact HB.out | apply qd | apply qe | apply qf | refine below_set ?_ GE115.out) | exact HB.out)⟩

/-! ### carve_Edits: function 26 -/
mutual
def carve_Edits.l0 : Nat → List (S30) → List (S35) → Int → Int → Option ((List (S30)))
 | 0, _, _, _, _ => none
 | k + 1, x7, x14, x15, x16 => if x16 < x15 then (if 0 ≤ x16 then (if x16 < (x14.length : Int) then ((block_Word.f ((rd_T35 x14 x16).f1) ((rd_T35 x14 x16).f2)).bind fun t128 => (if x7.length < 8796093022208 then (carve_Edits.l1 k (x7 ++ [(⟨(rd_T35 x14 x16).f0, t128⟩ : S30)]) 1 x14 x15 x16 ((rd_T35 x14 x16).f0) ((rd_T35 x14 x16).f1) ((rd_T35 x14 x16).f2)) else (none))) else (none)) else (none)) else (some x7)
def carve_Edits.l1 : Nat → List (S30) → Int → List (S35) → Int → Int → Int → Int → Bool → Option ((List (S30)))
 | 0, _, _, _, _, _, _, _, _ => none
 | k + 1, x7, x10, x14, x15, x16, x128000, x128001, x128002 => if x10 < x128001 then (if x128002 = true then (if x7.length < 8796093022208 then (carve_Edits.l1 k (x7 ++ [(⟨wrap64 (x128000 + x10), 0⟩ : S30)]) (wrap64 (x10 + 1)) x14 x15 x16 x128000 x128001 x128002) else (none)) else (carve_Edits.l0 k x7 x14 x15 (wrap64 (x16 + 1)))) else (carve_Edits.l0 k x7 x14 x15 (wrap64 (x16 + 1)))
end
def carve_Edits.f (k : Nat) (l0 : List (S35)) (a1 : Int) (a2 : Int) : Option ((List (S30))) := (carve_taken.f k l0 a1 a2).bind fun t123 => (carve_Edits.l0 k ([] : List (S30)) t123 (t123.length : Int) 0)
theorem carve_Edits.mono_l : ∀ k, (∀ y0 y1 y2 y3, LeO (carve_Edits.l0 k y0 y1 y2 y3) (carve_Edits.l0 (k + 1) y0 y1 y2 y3)) ∧ (∀ y0 y1 y2 y3 y4 y5 y6 y7, LeO (carve_Edits.l1 k y0 y1 y2 y3 y4 y5 y6 y7) (carve_Edits.l1 (k + 1) y0 y1 y2 y3 y4 y5 y6 y7))
 | 0 => ⟨fun _ _ _ _ r h => by simp [carve_Edits.l0] at h, fun _ _ _ _ _ _ _ _ r h => by simp [carve_Edits.l1] at h⟩
 | k + 1 => by
  obtain ⟨ih0, ih1⟩ := carve_Edits.mono_l k
  refine ⟨?_, ?_⟩
  ·
   intro y0 y1 y2 y3
   unfold carve_Edits.l0
   repeat' first
   | (with_reducible exact ih0 _ _ _ _)
   | (with_reducible exact ih1 _ _ _ _ _ _ _ _)
   | (with_reducible exact carve_taken.mono _ _ _ _)
   | (with_reducible exact LeO.refl _)
   | (with_reducible exact LeO.none _)
   | (with_reducible refine LeO.ite ?_ ?_)
   | (with_reducible refine LeO.bind ?_ (fun _ => ?_))
   | exact ih0 _ _ _ _
   | exact ih1 _ _ _ _ _ _ _ _
   | exact carve_taken.mono _ _ _ _
   | exact LeO.none _
   | refine LeO.ite ?_ ?_
   | refine LeO.bind ?_ (fun _ => ?_)
  ·
   intro y0 y1 y2 y3 y4 y5 y6 y7
   unfold carve_Edits.l1
   repeat' first
   | (with_reducible exact ih0 _ _ _ _)
   | (with_reducible exact ih1 _ _ _ _ _ _ _ _)
   | (with_reducible exact carve_taken.mono _ _ _ _)
   | (with_reducible exact LeO.refl _)
   | (with_reducible exact LeO.none _)
   | (with_reducible refine LeO.ite ?_ ?_)
   | (with_reducible refine LeO.bind ?_ (fun _ => ?_))
   | exact ih0 _ _ _ _
   | exact ih1 _ _ _ _ _ _ _ _
   | exact carve_taken.mono _ _ _ _
   | exact LeO.none _
   | refine LeO.ite ?_ ?_
   | refine LeO.bind ?_ (fun _ => ?_)
theorem carve_Edits.mono : ∀ a0 a1 a2 k, LeO (carve_Edits.f k a0 a1 a2) (carve_Edits.f (k + 1) a0 a1 a2) := by
 intro a0 a1 a2 k
 obtain ⟨ih0, ih1⟩ := carve_Edits.mono_l k
 unfold carve_Edits.f
 repeat' first
   | (with_reducible exact ih0 _ _ _ _)
   | (with_reducible exact ih1 _ _ _ _ _ _ _ _)
   | (with_reducible exact carve_taken.mono _ _ _ _)
   | (with_reducible exact LeO.refl _)
   | (with_reducible exact LeO.none _)
   | (with_reducible refine LeO.ite ?_ ?_)
   | (with_reducible refine LeO.bind ?_ (fun _ => ?_))
   | exact ih0 _ _ _ _
   | exact ih1 _ _ _ _ _ _ _ _
   | exact carve_taken.mono _ _ _ _
   | exact LeO.none _
   | refine LeO.ite ?_ ?_
   | refine LeO.bind ?_ (fun _ => ?_)
def carve_Edits.T5 : Bool × List (List Nat × List Nat) := (true, [([], []), ([], []), ([1], [1]), ([], []), ([3], [3]), ([], []), ([5], [5]), ([4, 6], [4, 6]), ([2, 7], [2, 7]), ([8], [8]), ([0, 9, 7], [0, 9]), ([10, 10, 0, 1, 2, 3, 4, 5, 6, 7, 8, 9, 10], [0, 10])])
def carve_Edits.B5 : List Nat := [0, 0, 2, 0, 8, 0, 32, 120, 254, 510, 1023, 2047]
theorem carve_Edits.tab5 : rtab .any (opsOf Try.f26 5) = carve_Edits.T5 := by kernel_rfl
theorem carve_Edits.bits5 : waitsOk carve_Edits.T5.2 carve_Edits.B5 = true := by kernel_rfl
set_option maxHeartbeats 8000000 in
set_option maxRecDepth 100000 in
theorem carve_Edits.calls (k : Nat) (A0 : Option Addr) (c0 : Nat) (l0 : List (S35)) (a1 : Int) (a2 : Int) (r : List (S30)) (w : World) (hr0 : Kd.C k35 w A0 l0.length l0) (hc0 : l0.length ≤ c0) (h : carve_Edits.f k l0 a1 a2 = some r) :
  Calls Try.prog 26 #[.slice A0 l0.length c0, .int .i64 a1, .int .i64 a2] w fun e w' => ∃ v0_ : Value, e = .returned (v0_) ∧ Kd.R k30 30 w' w.heap.size (fun _ => True) v0_ r ∧ Below w.heap.size w w' := by
 have hu35 := Try.underlying35
 have hu30 := Try.underlying30
 have HR0 := Aside0.mk hr0
 have HC0 := Aside0.mk hc0
 clear hr0 hc0
 have HB := Aside0.mk (Below.refl w.heap.size w)
 have H : ((carve_taken.f k l0 a1 a2).bind fun t123 => (carve_Edits.l0 k ([] : List (S30)) t123 (t123.length : Int) 0)) = some r := h
 clear h
 replace H := Option.bind_eq_some_iff.mp H
 obtain ⟨t123, A40, H⟩ := H
 replace H : (carve_Edits.l0 k ([] : List (S30)) t123 (t123.length : Int) 0) = some r := H
 have A4 := Aside0.mk A40
 clear A40
 have H' := Aside0.mk H
 clear H
 go_enter Try.func26, Try.ntmps26
 go_wp2_with (first | ((with_reducible refine gate_callee (f := 64) rfl ?_); refine goesL_ (some 14) rfl rfl Try.func64 (by kernel_rfl) rfl #[.slice A0 l0.length c0, .int .i64 a1, .int .i64 a2] rfl (by (try simp only [qj, qk, ql]); first | done | rfl | (simp only [qm, qn]; rfl)) ?_; (with_reducible refine (carve_taken.calls k _ _ l0 a1 a2 t123 _ ?side1 ?side2 A4.out).mono ?_); (case side1 => exact zc HR0.out); (case side2 => exact HC0.out); rintro e w5 ⟨v124, rfl, ho0, hb⟩; refine ⟨_, rfl, ?_⟩; have n0_ := Aside0.mk (Kd.R_lower ho0 (below_size (zB HB))); have n1_ := zb HB hb; clear HB; have HO125 := n0_; have HB := n1_; clear n0_ n1_; (try clear hb); (try clear ho0); obtain ⟨Ao6, co6, eo6⟩ := Kd.R_slice HO125.out; subst eo6))
 go_loopg [7, 16] k (fun kq v7 v16 w' => ∃ (x7_1 : List (S30)) (x16_1 : Int), v16 = .int .i64 x16_1 ∧ Aside0 (carve_Edits.l0 kq x7_1 t123 (t123.length : Int) x16_1 = some r) ∧ Aside0 (kq ≤ k) ∧ Aside0 (Kd.R k30 30 w' w.heap.size (fun _ => True) v7 x7_1) ∧ Aside0 (Kd.R k35 35 w' w.heap.size (fun _ => True) (.slice Ao6 t123.length co6) t123) ∧ Aside0 (Below w.heap.size w w'))
 case atStart => exact ⟨(([] : List (S30))), (0), (by first | rfl | (simp; done) | (simp [*]; done)), H', ⟨Nat.le_refl _⟩, ⟨by first | exact Kd.R_nil _ _ _ _ _ | exact Kd.N_nil _ _ _ _ _ | exact Kd.V_nil _ _ _ _ _ | exact Kd.Q_nil _ _ _ _ _ | exact Kd.S_nil _ _ _ _ _⟩, ⟨zr HO125⟩, ⟨zB HB⟩⟩
 case round =>
  clear H'
  try clear c2
  try clear p2
  try clear c6
  obtain ⟨x7_1, x16_1, rfl, HA, HK1, HO_7, HO_14, HB⟩ := hrel
  cases gk with
  | zero => exact absurd HA.out (by simp [carve_Edits.l0])
  | succ k1 =>
   have H := HA.out
   clear HA
   simp only [carve_Edits.l0] at H
   by_cases c7 : x16_1 < (t123.length : Int)
   rotate_left
   ·
    rw [if_neg c7] at H
    have c7b0 : decide (x16_1 < (t123.length : Int)) = false := decide_eq_false c7
    clear c7
    obtain rfl := Option.some.inj H
    go_wp2
    go_ret
    exact ⟨_, by first | rfl | (simp [errW_none, errW_some] <;> rfl) | (simp [*, errW_none, errW_some] <;> rfl), by (with_reducible repeat (first | apply qa | apply qb | apply qc)); exact HO_7.out, zB HB⟩
   rw [if_pos c7] at H
   have c7b0 : decide (x16_1 < (t123.length : Int)) = true := decide_eq_true c7
   clear c7
   by_cases c8 : 0 ≤ x16_1
   rotate_left
   ·
    rw [if_neg c8] at H
    exact absurd H (by simp)
   rw [if_pos c8] at H
   have c8b0 : decide (0 ≤ x16_1) = true := decide_eq_true c8
   clear c8
   by_cases c9 : x16_1 < (t123.length : Int)
   rotate_left
   ·
    rw [if_neg c9] at H
    exact absurd H (by simp)
   rw [if_pos c9] at H
   have c9b0 : decide (x16_1 < (t123.length : Int)) = true := decide_eq_true c9
   clear c9
   replace H := Option.bind_eq_some_iff.mp H
   obtain ⟨t128, A100, H⟩ := H
   replace H : (if x7_1.length < 8796093022208 then (carve_Edits.l1 k1 (x7_1 ++ [(⟨(rd_T35 t123 x16_1).f0, t128⟩ : S30)]) 1 t123 (t123.length : Int) x16_1 ((rd_T35 t123 x16_1).f0) ((rd_T35 t123 x16_1).f1) ((rd_T35 t123 x16_1).f2)) else (none)) = some r := H
   have A10 := Aside0.mk A100
   clear A100
   by_cases c11 : x7_1.length < 8796093022208
   rotate_left
   ·
    rw [if_neg c11] at H
    exact absurd H (by simp)
   rw [if_pos c11] at H
   have LMc11 := Aside0.mk c11
   clear c11
   obtain ⟨y129, hy129⟩ : ∃ y_ : List (S30), y_ = (x7_1 ++ [(⟨(rd_T35 t123 x16_1).f0, t128⟩ : S30)]) := ⟨_, rfl⟩
   replace H : (carve_Edits.l1 k1 y129 1 t123 (t123.length : Int) x16_1 ((rd_T35 t123 x16_1).f0) ((rd_T35 t123 x16_1).f1) ((rd_T35 t123 x16_1).f2)) = some r := by first | (rw [hy129]; with_reducible exact H) | (have H2_ := (Option.bind_some _ _).symm.trans H; rw [hy129]; with_reducible exact H2_) | (have H2_ := (Option.bind_some _ _).symm.trans H; with_reducible exact H2_) | with_reducible exact H | (rw [hy129]; exact H) | exact H
   have Ny129 := Aside0.mk hy129
   clear hy129
   have H' := Aside0.mk H
   clear H
   have p126 : 0 ≤ (x16_1 : Int) := zu
   have q126 : x16_1 < (t123.length : Int) := zu
   obtain ⟨ad126, e126, hx126_0, hx126_1, hx126_2⟩ := at_T35 (Kd.R_reads' HO_14.out).2.2 x16_1 p126 q126
   cases e126
   replace p126 := eq_true p126
   replace q126 := eq_true q126
   try go_wp2_with (first | ((with_reducible refine gate_dst (N := 9) rfl ?_); refine box_event ?hg (N := 9) ?hd (cs := #[.int .i64 0, .int .i64 0, .bool false]) (t := 35) ?hr ?_; (case hd => rfl); (case hg => rfl); (case hr => first | (go_simp; done) | (go_simp; rfl)); intro gb127 hg w12 hbox hb; have n0_ := za HO_7 hb; have n1_ := Aside0.mk (qv (Kd.R_elderB (zr HO_14) gb127 (Nat.le_of_eq hg.symm)) hb); have n2_ := zb HB hb; have n3_ := Aside0.mk (hbox); have n4_ := Aside0.mk ((by rw [hg]; exact (below_size (zB HB)) : w.heap.size ≤ gb127)); have n5_ := Aside0.mk ((by rw [hg]; exact (below_size (zB HB)) : w.heap.size ≤ gb127)); clear HO_7; clear HO_14; clear HB; have HO_7 := n0_; have HO_14 := n1_; have HB := n2_; have BK127 := n3_; have GW127 := n4_; have GE127 := n5_; clear n0_ n1_ n2_ n3_ n4_ n5_; clear hb hbox hg; have hcz13_0 : w12.cell? ⟨gb127, 0, none⟩ = some (.int .i64 0) := (blk_cell BK127.out 0).trans rfl; have hcz13_1 : w12.cell? ⟨gb127, 1, none⟩ = some (.int .i64 0) := (blk_cell BK127.out 1).trans rfl; have hcz13_2 : w12.cell? ⟨gb127, 2, none⟩ = some (.bool false) := (blk_cell BK127.out 2).trans rfl; have hfz13_0 := blk_frozen BK127.out 0; have hfz13_1 := blk_frozen BK127.out 1; have hfz13_2 := blk_frozen BK127.out 2))
   have n0_ : Aside0 (Kd.R k30 30 (((w12.setCell ⟨gb127, 0, none⟩ (.int .i64 ((rd_T35 t123 x16_1).f0))).setCell ⟨gb127, 1, none⟩ (.int .i64 ((rd_T35 t123 x16_1).f1))).setCell ⟨gb127, 2, none⟩ (.bool ((rd_T35 t123 x16_1).f2))) w.heap.size (fun _ => True) u7 x7_1) := ⟨by (with_reducible repeat (first | apply qa | apply qb | apply qc)); exact Kd.R_mono (Kd.R_far (p := ⟨gb127, 2, none⟩) (Kd.R_far (p := ⟨gb127, 1, none⟩) (Kd.R_far (p := ⟨gb127, 0, none⟩) (Kd.R_types HO_7.out BK127.out (by decide)) (fun _ hk => hk.2) (.int .i64 ((rd_T35 t123 x16_1).f0))) (fun _ hk => hk.2) (.int .i64 ((rd_T35 t123 x16_1).f1))) (fun _ hk => hk.2) (.bool ((rd_T35 t123 x16_1).f2))) (fun _ hk => trivial)⟩
   have n1_ : Aside0 (Kd.R k35 35 (((w12.setCell ⟨gb127, 0, none⟩ (.int .i64 ((rd_T35 t123 x16_1).f0))).setCell ⟨gb127, 1, none⟩ (.int .i64 ((rd_T35 t123 x16_1).f1))).setCell ⟨gb127, 2, none⟩ (.bool ((rd_T35 t123 x16_1).f2))) w.heap.size (fun k_ => k_ ≠ gb127) (.slice (some ad126) t123.length co6) t123) := ⟨by (with_reducible repeat (first | apply qa | apply qb | apply qc)); exact Kd.R_mono (Kd.R_far (p := ⟨gb127, 2, none⟩) (Kd.R_far (p := ⟨gb127, 1, none⟩) (Kd.R_far (p := ⟨gb127, 0, none⟩) (Kd.R_mono HO_14.out (fun k_ hk => (⟨hk, hk.2⟩ : _ ∧ k_ ≠ gb127))) (fun _ hk => hk.2) (.int .i64 ((rd_T35 t123 x16_1).f0))) (fun _ hk => hk.2) (.int .i64 ((rd_T35 t123 x16_1).f1))) (fun _ hk => hk.2) (.bool ((rd_T35 t123 x16_1).f2))) (fun _ hk => hk.1.2)⟩
   have n2_ : Aside0 ((((w12.setCell ⟨gb127, 0, none⟩ (.int .i64 ((rd_T35 t123 x16_1).f0))).setCell ⟨gb127, 1, none⟩ (.int .i64 ((rd_T35 t123 x16_1).f1))).setCell ⟨gb127, 2, none⟩ (.bool ((rd_T35 t123 x16_1).f2))).heap[gb127]? = some (.cells #[.int .i64 ((rd_T35 t123 x16_1).f0), .int .i64 ((rd_T35 t123 x16_1).f1), .bool ((rd_T35 t123 x16_1).f2)] 35 (0, 0))) := ⟨by (with_reducible repeat (first | refine blk_drewN ?_ _ | refine blk_drew ?_ | refine blk_alloc ?_ _)); refine blk_put (cs := #[.int .i64 ((rd_T35 t123 x16_1).f0), .int .i64 ((rd_T35 t123 x16_1).f1), .bool false]) ?_ 2 _ rfl; (with_reducible repeat (first | refine blk_drewN ?_ _ | refine blk_drew ?_ | refine blk_alloc ?_ _)); refine blk_put (cs := #[.int .i64 ((rd_T35 t123 x16_1).f0), .int .i64 0, .bool false]) ?_ 1 _ rfl; (with_reducible repeat (first | refine blk_drewN ?_ _ | refine blk_drew ?_ | refine blk_alloc ?_ _)); refine blk_put (cs := #[.int .i64 0, .int .i64 0, .bool false]) ?_ 0 _ rfl; (with_reducible repeat (first | refine blk_drewN ?_ _ | refine blk_drew ?_ | refine blk_alloc ?_ _)); exact BK127.out⟩
   have n3_ : Aside0 (Below w.heap.size w (((w12.setCell ⟨gb127, 0, none⟩ (.int .i64 ((rd_T35 t123 x16_1).f0))).setCell ⟨gb127, 1, none⟩ (.int .i64 ((rd_T35 t123 x16_1).f1))).setCell ⟨gb127, 2, none⟩ (.bool ((rd_T35 t123 x16_1).f2)))) := ⟨by repeat (first | (with_reducible first | exact HB.out | apply qd | apply qe | apply qf | refine below_set ?_ GE127.out) | exact HB.out)⟩
   (try clear HO_7)
   (try clear HO_14)
   (try clear BK127)
   (try clear HB)
   generalize (((w12.setCell ⟨gb127, 0, none⟩ (.int .i64 ((rd_T35 t123 x16_1).f0))).setCell ⟨gb127, 1, none⟩ (.int .i64 ((rd_T35 t123 x16_1).f1))).setCell ⟨gb127, 2, none⟩ (.bool ((rd_T35 t123 x16_1).f2))) = w14 at n0_ n1_ n2_ n3_ ⊢
   have HO_7 := n0_
   have HO_14 := n1_
   have BK127 := n2_
   have HB := n3_
   clear n0_ n1_ n2_ n3_
   have n0_ := Aside0.mk (qc HO_7.out)
   have n1_ := Aside0.mk (qc HO_14.out)
   have n2_ := Aside0.mk (blk_drew BK127.out)
   have n3_ := Aside0.mk (qf HB.out)
   clear HO_7
   clear HO_14
   clear BK127
   clear HB
   have HO_7 := n0_
   have HO_14 := n1_
   have BK127 := n2_
   have HB := n3_
   clear n0_ n1_ n2_ n3_
   refine start_ (n := 12) (S := fun w' => w'.cell? ⟨gb127, 0, none⟩ = some (.int .i64 ((rd_T35 t123 x16_1).f0)) ∧ w'.cell? ⟨gb127, 1, none⟩ = some (.int .i64 ((rd_T35 t123 x16_1).f1)) ∧ w'.cell? ⟨gb127, 2, none⟩ = some (.bool ((rd_T35 t123 x16_1).f2))) (ds := []) (onA 12 0) (by kernel_rfl) rfl rfl ⟨(blk_cell BK127.out 0).trans rfl, (blk_cell BK127.out 1).trans rfl, (blk_cell BK127.out 2).trans rfl⟩ (fun hHeld => ?_); refine with_tabW carve_Edits.tab5 carve_Edits.bits5 (fun HT_ HW_ => ?_)
   generalize w14.drew = w15 at HO_7 HO_14 BK127 HB hHeld ⊢
   refine pu 0 (some 20) (onA 12 1) HT_ (h := ?_)
   refine pu 1 (some 21) (onA 12 2) HT_ (h := ?_)
   refine pu 3 (some 23) #[tt_,tt_,ff_,tt_,ff_,ff_,ff_,ff_,ff_,ff_,ff_,ff_] HT_ (h := ?_)
   refine pu 5 (some 25) #[tt_,tt_,ff_,tt_,ff_,tt_,ff_,ff_,ff_,ff_,ff_,ff_] HT_ (h := ?_)
   refine take_ (i := 2) (N := some 22) (v := ?_) (a' := ?_) #[tt_,tt_,tt_,tt_,ff_,tt_,ff_,ff_,ff_,ff_,ff_,ff_] rfl rfl (take_ofW HT_.out HW_.out (by kernel_rfl)) (fun _ _ _ h => h) (Or.inl ⟨by rfl, ?_⟩) hHeld ?_ ?_
   rotate_left
   ·
    rintro w' ⟨s0, s1, s2⟩
    go_simp
    with_reducible rfl
   rotate_left
   ·
    simp only [Act.put, qg, qh, qi, i64_w, i32_w]
    rfl
   refine take_ (i := 4) (N := some 24) (v := ?_) (a' := ?_) (onA 12 6) rfl rfl (take_ofW HT_.out HW_.out (by kernel_rfl)) (fun _ _ _ h => h) (Or.inl ⟨by rfl, ?_⟩) hHeld ?_ ?_
   rotate_left
   ·
    rintro w' ⟨s0, s1, s2⟩
    go_simp
    with_reducible rfl
   rotate_left
   ·
    simp only [Act.put, qg, qh, qi, i64_w, i32_w]
    rfl
   refine take_ (i := 6) (N := some 26) (v := ?_) (a' := ?_) (onA 12 7) rfl rfl (take_ofW HT_.out HW_.out (by kernel_rfl)) (fun _ _ _ h => h) (Or.inl ⟨by rfl, ?_⟩) hHeld ?_ ?_
   rotate_left
   ·
    rintro w' ⟨s0, s1, s2⟩
    go_simp
    with_reducible rfl
   rotate_left
   ·
    simp only [Act.put, qg, qh, qi, i64_w, i32_w]
    rfl
   refine one_ (i := 7) (N := some 27) (onA 12 8) rfl rfl (one_of HT_.out (by kernel_rfl)) (by decide) (fun K hK => ?_)
   refine goes_ Try.func61 (by kernel_rfl) rfl #[.int .i64 ((rd_T35 t123 x16_1).f1), .bool ((rd_T35 t123 x16_1).f2)] (by rfl) rfl rfl (by (try simp only [qj, qk, ql]); first | done | rfl | (simp only [qm, qn]; rfl)) ?_
   with_reducible refine (block_Word.calls ((rd_T35 t123 x16_1).f1) ((rd_T35 t123 x16_1).f2) t128 _ A10.out).mono ?_
   rintro e w' ⟨rfl, ⟨nd, rfl⟩⟩
   refine ⟨_, rfl, ?_⟩
   refine hK.out _ _ ⟨(blk_cell BK127.out 0).trans rfl, (blk_cell BK127.out 1).trans rfl, (blk_cell BK127.out 2).trans rfl⟩ (fun hHeld => ?_)
   clear hK K
   refine norm_ (a' := ?_) ?_ ?_
   rotate_left
   ·
    show Act.put _ (some 27) _ = _
    simp only [Act.put, qg, qh, qi, i64_w, i32_w]
    rfl
   refine pu 8 (some 28) (onA 12 9) HT_ (h := ?_)
   refine one_ (i := 9) (N := some 29) (onA 12 10) rfl rfl (one_of HT_.out (by kernel_rfl)) (by decide) (fun K hK => ?_)
   refine value_ (w1 := ?_) (v := ?_) (by rfl) rfl ?_ ?_
   rotate_left 2
   ·
    go_simp
    constructor
    ·
     rfl
    ·
     rfl
   refine hK.out _ _ ⟨(blk_cell (blk_alloc BK127.out _) 0).trans rfl, (blk_cell (blk_alloc BK127.out _) 1).trans rfl, (blk_cell (blk_alloc BK127.out _) 2).trans rfl⟩ (fun hHeld => ?_)
   clear hK K
   refine norm_ (a' := ?_) ?_ ?_
   rotate_left
   ·
    show Act.put _ (some 29) _ = _
    simp only [Act.put, qg, qh, qi, i64_w, i32_w]
    rfl
   refine one_ (i := 10) (N := some 30) (onA 12 11) rfl rfl (one_of HT_.out (by kernel_rfl)) (by decide) (fun K hK => ?_)
   refine Kd.R_append_step k30 (w0 := w) w.heap.size (by rfl) (.tmp 20) (.tmp 29) 42 30 (.agg #[(.int .i64 0), (.int .u64 0)]) 16 rfl Try.underlying42 info30 rfl (by decide) (by omega) u7 x7_1 (⟨(rd_T35 t123 x16_1).f0, t128⟩ : S30) [.int .i64 ((rd_T35 t123 x16_1).f0), .int .u64 t128] (fun _ => True) (fun _ => False) rfl rfl ?aP (fun _ hk => hk.elim) ?aF ?aO ?aB ?aS ?aL ?_
   (case aP => exact k30_mkM _ _ _ (⟨(rd_T35 t123 x16_1).f0, t128⟩ : S30))
   (case aB => exact (by repeat (first | (with_reducible first | exact HB.out | apply qd | apply qe | apply qf | refine below_set ?_ GE127.out) | exact HB.out)))
   (case aF => exact (fun _ _ => trivial))
   (case aO => exact (zr HO_7))
   (case aS => exact (below_size (by repeat (first | (with_reducible first | exact HB.out | apply qd | apply qe | apply qf | refine below_set ?_ GE127.out) | exact HB.out))))
   (case aL => have := LMc11.out; omega)
   intro v130 w16 ho hb hg hat
   rw [← Ny129.out] at ho
   have n0_ := Aside0.mk (Kd.R_over' (zr HO_14) (Kd.R_typed (zr HO_7)) (by decide) hg)
   have n1_ := Aside0.mk (blk_grown (g := gb127) (o := .cells #[.int .i64 ((rd_T35 t123 x16_1).f0), .int .i64 ((rd_T35 t123 x16_1).f1), .bool ((rd_T35 t123 x16_1).f2)] 35 (0, 0)) (by (with_reducible repeat (first | refine blk_drewN ?_ _ | refine blk_drew ?_ | refine blk_alloc ?_ _)); exact BK127.out) hg (Kd.R_ne HO_7.out BK127.out (by decide)))
   have n2_ := Aside0.mk (hb)
   have n3_ := Aside0.mk (ho)
   clear HO_14
   clear BK127
   clear HB
   clear HO_7
   have HO_14 := n0_
   have BK127 := n1_
   have HB := n2_
   have HO131 := n3_
   clear n0_ n1_ n2_ n3_
   clear ho hb hg hat
   refine hK.out _ _ ⟨(blk_cell BK127.out 0).trans rfl, (blk_cell BK127.out 1).trans rfl, (blk_cell BK127.out 2).trans rfl⟩ (fun hHeld => ?_)
   clear hK K
   refine norm_ (a' := ?_) ?_ ?_
   rotate_left
   ·
    show Act.put _ (some 30) _ = _
    simp only [Act.put, qg, qh, qi, i64_w, i32_w]
    rfl
   refine pu 11 (some 7) (onA 12 12) HT_ (h := ?_)
   refine done_ (done_of HT_.out (by kernel_rfl)) ?_
   try go_wp2
   go_loopg [7, 10] k1 (fun kq v7 v10 w' => ∃ (x7_2 : List (S30)) (x10_2 : Int), v10 = .int .i64 x10_2 ∧ Aside0 (carve_Edits.l1 kq x7_2 x10_2 t123 (t123.length : Int) x16_1 ((rd_T35 t123 x16_1).f0) ((rd_T35 t123 x16_1).f1) ((rd_T35 t123 x16_1).f2) = some r) ∧ Aside0 (kq ≤ k1) ∧ Aside0 (Kd.R k30 30 w' w.heap.size (fun _ => True) v7 x7_2) ∧ Aside0 (Kd.R k35 35 w' w.heap.size (fun k_ => k_ ≠ gb127) (.slice (some ad126) t123.length co6) t123) ∧ Aside0 (w'.heap[gb127]? = some (.cells #[.int .i64 ((rd_T35 t123 x16_1).f0), .int .i64 ((rd_T35 t123 x16_1).f1), .bool ((rd_T35 t123 x16_1).f2)] 35 (0, 0))) ∧ Aside0 (Below w.heap.size w w'))
   case atStart => exact ⟨(y129), (1), (by first | rfl | (simp; done) | (simp [*]; done)), H', ⟨Nat.le_refl _⟩, ⟨zr HO131⟩, ⟨zr HO_14⟩, ⟨by (with_reducible repeat (first | refine blk_drewN ?_ _ | refine blk_drew ?_ | refine blk_alloc ?_ _)); exact BK127.out⟩, ⟨by repeat (first | (with_reducible first | exact HB.out | apply qd | apply qe | apply qf | refine below_set ?_ GE127.out) | exact HB.out)⟩⟩
   case round =>
    clear H'
    try clear c1
    try clear p1
    try clear q1
    try clear hx1
    try clear c2
    try clear p2
    try clear c6
    try clear c7
    try clear c7b0
    try clear c8
    try clear c8b0
    try clear c9
    try clear c9b0
    try clear c11
    try clear p12
    try clear q12
    try clear hx12
    try clear hcz13_0
    try clear hcz13_1
    try clear hcz13_2
    try clear hfz13_0
    try clear hfz13_1
    try clear hfz13_2
    try clear hx126_0
    try clear hx126_1
    try clear hx126_2
    try clear p126
    try clear p2
    try clear q126
    obtain ⟨x7_2, x10_2, rfl, HA, HK2, HO_7, HO_14, BK127, HB⟩ := hrel
    cases gk with
    | zero => exact absurd HA.out (by simp [carve_Edits.l1])
    | succ k2 =>
     have H := HA.out
     clear HA
     simp only [carve_Edits.l1] at H
     by_cases c17 : x10_2 < ((rd_T35 t123 x16_1).f1)
     rotate_left
     ·
      rw [if_neg c17] at H
      have c17b0 : decide (x10_2 < ((rd_T35 t123 x16_1).f1)) = false := decide_eq_false c17
      clear c17
      have H' := Aside0.mk H
      clear H
      have hcz24_0 : wr.cell? ⟨gb127, 0, none⟩ = some (.int .i64 ((rd_T35 t123 x16_1).f0)) := (blk_cell BK127.out 0).trans rfl
      have hcz24_1 : wr.cell? ⟨gb127, 1, none⟩ = some (.int .i64 ((rd_T35 t123 x16_1).f1)) := (blk_cell BK127.out 1).trans rfl
      have hcz24_2 : wr.cell? ⟨gb127, 2, none⟩ = some (.bool ((rd_T35 t123 x16_1).f2)) := (blk_cell BK127.out 2).trans rfl
      have hfz24_0 := blk_frozen BK127.out 0
      have hfz24_1 := blk_frozen BK127.out 1
      have hfz24_2 := blk_frozen BK127.out 2
      go_wp2
      go_roundg k2
      case measure => have := HK1.out; have := HK2.out; omega
      case rel => exact ⟨(x7_2), (wrap64 (x16_1 + 1)), (by first | rfl | (simp; done) | (simp [*]; done)), H', ⟨by have := HK1.out; have := HK2.out; omega⟩, ⟨zr HO_7⟩, ⟨by (with_reducible repeat (first | apply qa | apply qb | apply qc)); exact Kd.R_mono HO_14.out (fun _ hk => trivial)⟩, ⟨by repeat (first | (with_reducible first | exact HB.out | apply qd | apply qe | apply qf | refine below_set ?_ GE127.out) | exact HB.out)⟩⟩
     rw [if_pos c17] at H
     have c17b0 : decide (x10_2 < ((rd_T35 t123 x16_1).f1)) = true := decide_eq_true c17
     clear c17
     first | (generalize hbq18 : (rd_T35 t123 x16_1).f2 = bq18 at *; replace hbq18 := hbq18.symm) | (obtain ⟨bq18, hbq18⟩ : ∃ b_ : Bool, b_ = ((rd_T35 t123 x16_1).f2) := ⟨_, rfl⟩)
     replace H : (if bq18 = true then (if x7_2.length < 8796093022208 then (carve_Edits.l1 k2 (x7_2 ++ [(⟨wrap64 (((rd_T35 t123 x16_1).f0) + x10_2), 0⟩ : S30)]) (wrap64 (x10_2 + 1)) t123 (t123.length : Int) x16_1 ((rd_T35 t123 x16_1).f0) ((rd_T35 t123 x16_1).f1) bq18) else (none)) else (carve_Edits.l0 k2 x7_2 t123 (t123.length : Int) (wrap64 (x16_1 + 1)))) = some r := by first | exact H | (rw [← hbq18] at H; exact H)
     have Nbq18 := Aside0.mk hbq18
     clear hbq18
     (try rw [← Nbq18.out])
     by_cases c19 : bq18 = true
     rotate_left
     ·
      replace c19 := Bool.eq_false_iff.mpr c19
      subst c19
      have H1 : (carve_Edits.l0 k2 x7_2 t123 (t123.length : Int) (wrap64 (x16_1 + 1))) = some r := by rw [if_neg (show ¬ (false = true) by decide)] at H; exact H
      clear H
      have H := H1
      clear H1
      have H' := Aside0.mk H
      clear H
      have hcz23_0 : wr.cell? ⟨gb127, 0, none⟩ = some (.int .i64 ((rd_T35 t123 x16_1).f0)) := (blk_cell BK127.out 0).trans rfl
      have hcz23_1 : wr.cell? ⟨gb127, 1, none⟩ = some (.int .i64 ((rd_T35 t123 x16_1).f1)) := (blk_cell BK127.out 1).trans rfl
      have hcz23_2 : wr.cell? ⟨gb127, 2, none⟩ = some (.bool false) := (blk_cell BK127.out 2).trans rfl
      have hfz23_0 := blk_frozen BK127.out 0
      have hfz23_1 := blk_frozen BK127.out 1
      have hfz23_2 := blk_frozen BK127.out 2
      go_wp2
      go_roundg k2
      case measure => have := HK1.out; have := HK2.out; omega
      case rel => exact ⟨(x7_2), (wrap64 (x16_1 + 1)), (by first | rfl | (simp; done) | (simp [*]; done)), H', ⟨by have := HK1.out; have := HK2.out; omega⟩, ⟨zr HO_7⟩, ⟨by (with_reducible repeat (first | apply qa | apply qb | apply qc)); exact Kd.R_mono HO_14.out (fun _ hk => trivial)⟩, ⟨by repeat (first | (with_reducible first | exact HB.out | apply qd | apply qe | apply qf | refine below_set ?_ GE127.out) | exact HB.out)⟩⟩
     subst c19
     have H1 : (if x7_2.length < 8796093022208 then (carve_Edits.l1 k2 (x7_2 ++ [(⟨wrap64 (((rd_T35 t123 x16_1).f0) + x10_2), 0⟩ : S30)]) (wrap64 (x10_2 + 1)) t123 (t123.length : Int) x16_1 ((rd_T35 t123 x16_1).f0) ((rd_T35 t123 x16_1).f1) true) else (none)) = some r := by rw [if_pos rfl] at H; exact H
     clear H
     have H := H1
     clear H1
     by_cases c20 : x7_2.length < 8796093022208
     rotate_left
     ·
      rw [if_neg c20] at H
      exact absurd H (by simp)
     rw [if_pos c20] at H
     have LMc20 := Aside0.mk c20
     clear c20
     obtain ⟨y132, hy132⟩ : ∃ y_ : List (S30), y_ = (x7_2 ++ [(⟨wrap64 (((rd_T35 t123 x16_1).f0) + x10_2), 0⟩ : S30)]) := ⟨_, rfl⟩
     replace H : (carve_Edits.l1 k2 y132 (wrap64 (x10_2 + 1)) t123 (t123.length : Int) x16_1 ((rd_T35 t123 x16_1).f0) ((rd_T35 t123 x16_1).f1) true) = some r := by first | (rw [hy132]; with_reducible exact H) | (have H2_ := (Option.bind_some _ _).symm.trans H; rw [hy132]; with_reducible exact H2_) | (have H2_ := (Option.bind_some _ _).symm.trans H; with_reducible exact H2_) | with_reducible exact H | (rw [hy132]; exact H) | exact H
     have Ny132 := Aside0.mk hy132
     clear hy132
     have H' := Aside0.mk H
     clear H
     have hcz21_0 : wr.cell? ⟨gb127, 0, none⟩ = some (.int .i64 ((rd_T35 t123 x16_1).f0)) := (blk_cell BK127.out 0).trans rfl
     have hcz21_1 : wr.cell? ⟨gb127, 1, none⟩ = some (.int .i64 ((rd_T35 t123 x16_1).f1)) := (blk_cell BK127.out 1).trans rfl
     have hcz21_2 : wr.cell? ⟨gb127, 2, none⟩ = some (.bool true) := (blk_cell BK127.out 2).trans rfl
     have hfz21_0 := blk_frozen BK127.out 0
     have hfz21_1 := blk_frozen BK127.out 1
     have hfz21_2 := blk_frozen BK127.out 2
     go_wp2_with (first | ((with_reducible refine gate_builtin (b := .append) (xs := #[.tmp 41, .tmp 47]) rfl ?_); at_builtin; refine Kd.R_append k30 (w0 := w) w.heap.size rfl (.tmp 41) (.tmp 47) 42 30 (.agg #[(.int .i64 0), (.int .u64 0)]) 16 rfl Try.underlying42 info30 rfl (by decide) (by omega) u7 x7_2 (⟨wrap64 (((rd_T35 t123 x16_1).f0) + x10_2), 0⟩ : S30) [.int .i64 (wrap64 (((rd_T35 t123 x16_1).f0) + x10_2)), .int .u64 0] (fun _ => True) (fun _ => False) rfl rfl ?aP (fun _ hk => hk.elim) ?aF ?aO ?aB ?aS ?aL ?_; (case aP => exact k30_mkM _ _ _ (⟨wrap64 (((rd_T35 t123 x16_1).f0) + x10_2), 0⟩ : S30)); (case aB => exact (by repeat (first | (with_reducible first | exact HB.out | apply qd | apply qe | apply qf | refine below_set ?_ GE127.out) | exact HB.out))); (case aF => exact (fun _ _ => trivial)); (case aO => exact (zr HO_7)); (case aS => exact (below_size (by repeat (first | (with_reducible first | exact HB.out | apply qd | apply qe | apply qf | refine below_set ?_ GE127.out) | exact HB.out)))); (case aL => have := LMc20.out; omega); intro v133 w22 ho hb hg hat; rw [← Ny132.out] at ho; have n0_ := Aside0.mk (Kd.R_over' (zr HO_14) (Kd.R_typed (zr HO_7)) (by decide) hg); have n1_ := Aside0.mk (blk_grown (g := gb127) (o := .cells #[.int .i64 ((rd_T35 t123 x16_1).f0), .int .i64 ((rd_T35 t123 x16_1).f1), .bool true] 35 (0, 0)) (by (with_reducible repeat (first | refine blk_drewN ?_ _ | refine blk_drew ?_ | refine blk_alloc ?_ _)); exact BK127.out) hg (Kd.R_ne HO_7.out BK127.out (by decide))); have n2_ := Aside0.mk (hb); have n3_ := Aside0.mk (ho); clear HO_14; clear BK127; clear HB; clear HO_7; have HO_14 := n0_; have BK127 := n1_; have HB := n2_; have HO134 := n3_; clear n0_ n1_ n2_ n3_; clear ho hb hg hat))
     go_roundg k2
     case measure => have := HK1.out; have := HK2.out; omega
     case rel => exact ⟨(y132), (wrap64 (x10_2 + 1)), (by first | rfl | (simp; done) | (simp [*]; done)), H', ⟨by have := HK1.out; have := HK2.out; omega⟩, ⟨zr HO134⟩, ⟨zr HO_14⟩, ⟨by (with_reducible repeat (first | refine blk_drewN ?_ _ | refine blk_drew ?_ | refine blk_alloc ?_ _)); exact BK127.out⟩, ⟨by repeat (first | (with_reducible first | exact HB.out | apply qd | apply qe | apply qf | refine below_set ?_ GE127.out) | exact HB.out)⟩⟩

/-! ### carve_Off: function 28 -/
def carve_Off.f (a0_0 : Int) (a0_1 : Int) (a0_2 : Bool) : Option (Int) := if a0_0 < 0 then (some 0) else (if a0_0 > 512 then (some 0) else (some (wrap64 ((wrap64 (a0_0 + 1)) * 8))))
set_option maxHeartbeats 8000000 in
set_option maxRecDepth 100000 in
theorem carve_Off.calls (a0_0 : Int) (a0_1 : Int) (a0_2 : Bool) (r : Int) (w : World) (h : carve_Off.f a0_0 a0_1 a0_2 = some r) :
  Calls Try.prog 28 #[.agg #[.int .i64 a0_0, .int .i64 a0_1, .bool a0_2]] w fun e w' => e = .returned (.int .i64 r) ∧ Below w.heap.size w w' := by
 have hu35 := Try.underlying35
 have HB := Aside0.mk (Below.refl w.heap.size w)
 have H : (if a0_0 < 0 then (some 0) else (if a0_0 > 512 then (some 0) else (some (wrap64 ((wrap64 (a0_0 + 1)) * 8))))) = some r := h
 clear h
 by_cases c2 : a0_0 < 0
 ·
  rw [if_pos c2] at H
  have c2b0 : decide (a0_0 < 0) = true := decide_eq_true c2
  clear c2
  obtain rfl := Option.some.inj H
  go_enter Try.func28, Try.ntmps28
  go_wp2_with (first | ((with_reducible refine gate_dst (N := 1) rfl ?_); refine box_event ?hg (N := 1) ?hd (cs := #[.int .i64 a0_0, .int .i64 a0_1, .bool a0_2]) (t := 35) ?hr ?_; (case hd => rfl); (case hg => rfl); (case hr => first | (go_simp; done) | (go_simp; rfl)); intro gb135 hg w3 hbox hb; have n0_ := zb HB hb; have n1_ := Aside0.mk (hbox); have n2_ := Aside0.mk ((by rw [hg]; exact (below_size (zB HB)) : w.heap.size ≤ gb135)); have n3_ := Aside0.mk ((by rw [hg]; exact (below_size (zB HB)) : w.heap.size ≤ gb135)); clear HB; have HB := n0_; have BK135 := n1_; have GW135 := n2_; have GE135 := n3_; clear n0_ n1_ n2_ n3_; clear hb hbox hg; have hcz4_0 : w3.cell? ⟨gb135, 0, none⟩ = some (.int .i64 a0_0) := (blk_cell BK135.out 0).trans rfl; have hcz4_1 : w3.cell? ⟨gb135, 1, none⟩ = some (.int .i64 a0_1) := (blk_cell BK135.out 1).trans rfl; have hcz4_2 : w3.cell? ⟨gb135, 2, none⟩ = some (.bool a0_2) := (blk_cell BK135.out 2).trans rfl; have hfz4_0 := blk_frozen BK135.out 0; have hfz4_1 := blk_frozen BK135.out 1; have hfz4_2 := blk_frozen BK135.out 2))
  go_ret
  exact ⟨by first | rfl | (simp [errW_none, errW_some] <;> rfl) | (simp [*, errW_none, errW_some] <;> rfl), by repeat (first | (with_reducible first | exact HB.out | apply qd | apply qe | apply qf | refine below_set ?_ GE135.out) | exact HB.out)⟩
 rw [if_neg c2] at H
 have c2b0 : decide (a0_0 < 0) = false := decide_eq_false c2
 clear c2
 by_cases c5 : a0_0 > 512
 ·
  rw [if_pos c5] at H
  have c5b0 : decide (512 < a0_0) = true := decide_eq_true c5
  clear c5
  obtain rfl := Option.some.inj H
  go_enter Try.func28, Try.ntmps28
  go_wp2_with (first | ((with_reducible refine gate_dst (N := 1) rfl ?_); refine box_event ?hg (N := 1) ?hd (cs := #[.int .i64 a0_0, .int .i64 a0_1, .bool a0_2]) (t := 35) ?hr ?_; (case hd => rfl); (case hg => rfl); (case hr => first | (go_simp; done) | (go_simp; rfl)); intro gb135 hg w6 hbox hb; have n0_ := zb HB hb; have n1_ := Aside0.mk (hbox); have n2_ := Aside0.mk ((by rw [hg]; exact (below_size (zB HB)) : w.heap.size ≤ gb135)); have n3_ := Aside0.mk ((by rw [hg]; exact (below_size (zB HB)) : w.heap.size ≤ gb135)); clear HB; have HB := n0_; have BK135 := n1_; have GW135 := n2_; have GE135 := n3_; clear n0_ n1_ n2_ n3_; clear hb hbox hg; have hcz7_0 : w6.cell? ⟨gb135, 0, none⟩ = some (.int .i64 a0_0) := (blk_cell BK135.out 0).trans rfl; have hcz7_1 : w6.cell? ⟨gb135, 1, none⟩ = some (.int .i64 a0_1) := (blk_cell BK135.out 1).trans rfl; have hcz7_2 : w6.cell? ⟨gb135, 2, none⟩ = some (.bool a0_2) := (blk_cell BK135.out 2).trans rfl; have hfz7_0 := blk_frozen BK135.out 0; have hfz7_1 := blk_frozen BK135.out 1; have hfz7_2 := blk_frozen BK135.out 2))
  go_ret
  exact ⟨by first | rfl | (simp [errW_none, errW_some] <;> rfl) | (simp [*, errW_none, errW_some] <;> rfl), by repeat (first | (with_reducible first | exact HB.out | apply qd | apply qe | apply qf | refine below_set ?_ GE135.out) | exact HB.out)⟩
 rw [if_neg c5] at H
 have c5b0 : decide (512 < a0_0) = false := decide_eq_false c5
 clear c5
 obtain rfl := Option.some.inj H
 go_enter Try.func28, Try.ntmps28
 go_wp2_with (first | ((with_reducible refine gate_dst (N := 1) rfl ?_); refine box_event ?hg (N := 1) ?hd (cs := #[.int .i64 a0_0, .int .i64 a0_1, .bool a0_2]) (t := 35) ?hr ?_; (case hd => rfl); (case hg => rfl); (case hr => first | (go_simp; done) | (go_simp; rfl)); intro gb135 hg w8 hbox hb; have n0_ := zb HB hb; have n1_ := Aside0.mk (hbox); have n2_ := Aside0.mk ((by rw [hg]; exact (below_size (zB HB)) : w.heap.size ≤ gb135)); have n3_ := Aside0.mk ((by rw [hg]; exact (below_size (zB HB)) : w.heap.size ≤ gb135)); clear HB; have HB := n0_; have BK135 := n1_; have GW135 := n2_; have GE135 := n3_; clear n0_ n1_ n2_ n3_; clear hb hbox hg; have hcz9_0 : w8.cell? ⟨gb135, 0, none⟩ = some (.int .i64 a0_0) := (blk_cell BK135.out 0).trans rfl; have hcz9_1 : w8.cell? ⟨gb135, 1, none⟩ = some (.int .i64 a0_1) := (blk_cell BK135.out 1).trans rfl; have hcz9_2 : w8.cell? ⟨gb135, 2, none⟩ = some (.bool a0_2) := (blk_cell BK135.out 2).trans rfl; have hfz9_0 := blk_frozen BK135.out 0; have hfz9_1 := blk_frozen BK135.out 1; have hfz9_2 := blk_frozen BK135.out 2))
 go_ret
 exact ⟨by first | rfl | (simp [errW_none, errW_some] <;> rfl) | (simp [*, errW_none, errW_some] <;> rfl), by repeat (first | (with_reducible first | exact HB.out | apply qd | apply qe | apply qf | refine below_set ?_ GE135.out) | exact HB.out)⟩

/-! ### fit_Need: function 32 -/
def fit_Need.f (a0 : Int) : Option (Int) := if a0 < 1 then (some 0) else (if a0 > 448 then (some 0) else (some (wrap64 ((wrap64 (Int.tdiv (wrap64 (a0 + 7)) 8)) + 1))))
set_option maxHeartbeats 8000000 in
set_option maxRecDepth 100000 in
theorem fit_Need.calls (a0 : Int) (r : Int) (w : World) (h : fit_Need.f a0 = some r) :
  Calls Try.prog 32 #[.int .i64 a0] w fun e w' => e = .returned (.int .i64 r) ∧ Drawn0 w w' := by
 have H : (if a0 < 1 then (some 0) else (if a0 > 448 then (some 0) else (some (wrap64 ((wrap64 (Int.tdiv (wrap64 (a0 + 7)) 8)) + 1))))) = some r := h
 clear h
 by_cases c2 : a0 < 1
 ·
  rw [if_pos c2] at H
  have c2b0 : decide (a0 < 1) = true := decide_eq_true c2
  clear c2
  obtain rfl := Option.some.inj H
  go_enter Try.func32, Try.ntmps32
  go_wp2
  go_ret
  exact ⟨by first | rfl | (simp; done) | (simp [*]; done), by repeat (first | exact Drawn0.refl _ | apply Drawn0.step)⟩
 rw [if_neg c2] at H
 have c2b0 : decide (a0 < 1) = false := decide_eq_false c2
 clear c2
 by_cases c3 : a0 > 448
 ·
  rw [if_pos c3] at H
  have c3b0 : decide (448 < a0) = true := decide_eq_true c3
  clear c3
  obtain rfl := Option.some.inj H
  go_enter Try.func32, Try.ntmps32
  go_wp2
  go_ret
  exact ⟨by first | rfl | (simp; done) | (simp [*]; done), by repeat (first | exact Drawn0.refl _ | apply Drawn0.step)⟩
 rw [if_neg c3] at H
 have c3b0 : decide (448 < a0) = false := decide_eq_false c3
 clear c3
 obtain rfl := Option.some.inj H
 go_enter Try.func32, Try.ntmps32
 go_wp2
 go_ret
 exact ⟨by first | rfl | (simp; done) | (simp [*]; done), by repeat (first | exact Drawn0.refl _ | apply Drawn0.step)⟩

/-! ### block_Parse: function 66 -/
def block_Parse.f (a0 : Int) : Option (Int × Bool × Bool) := if (a0 / 2) > 512 then (some (0, false, false)) else ((block_May.f (wrap64 (a0 / 2))).bind fun t136 => (if t136 = true then (some (wrap64 (a0 / 2), ((Go.bits .and .u64 a0 1) == 1), true)) else (some (0, false, false))))
set_option maxHeartbeats 8000000 in
set_option maxRecDepth 100000 in
theorem block_Parse.calls (a0 : Int) (r1 : Int) (r2 : Bool) (r3 : Bool) (w : World) (h : block_Parse.f a0 = some (r1, r2, r3)) :
  Calls Try.prog 66 #[.int .u64 a0] w fun e w' => e = .returned (.tuple #[.int .i64 r1, .bool r2, .bool r3]) ∧ Drawn0 w w' := by
 have H : (if (a0 / 2) > 512 then (some (0, false, false)) else ((block_May.f (wrap64 (a0 / 2))).bind fun t136 => (if t136 = true then (some (wrap64 (a0 / 2), ((Go.bits .and .u64 a0 1) == 1), true)) else (some (0, false, false))))) = some (r1, r2, r3) := h
 clear h
 by_cases c2 : (a0 / 2) > 512
 ·
  rw [if_pos c2] at H
  have c2b0 : decide (512 < (a0 / 2)) = true := decide_eq_true c2
  clear c2
  simp only [Option.some.injEq, Prod.mk.injEq] at H
  obtain ⟨rfl, rfl, rfl⟩ := H
  go_enter Try.func66, Try.ntmps66
  go_wp2
  go_ret3
  exact ⟨by first | rfl | (simp; done) | (simp [*]; done), by repeat (first | exact Drawn0.refl _ | apply Drawn0.step)⟩
 rw [if_neg c2] at H
 have c2b0 : decide (512 < (a0 / 2)) = false := decide_eq_false c2
 clear c2
 replace H := Option.bind_eq_some_iff.mp H
 obtain ⟨t136, A30, H⟩ := H
 replace H : (if t136 = true then (some (wrap64 (a0 / 2), ((Go.bits .and .u64 a0 1) == 1), true)) else (some (0, false, false))) = some (r1, r2, r3) := H
 have A3 := Aside0.mk A30
 clear A30
 by_cases c4 : t136 = true
 ·
  subst c4
  have H1 : (some (wrap64 (a0 / 2), ((Go.bits .and .u64 a0 1) == 1), true)) = some (r1, r2, r3) := by rw [if_pos rfl] at H; exact H
  clear H
  have H := H1
  clear H1
  simp only [Option.some.injEq, Prod.mk.injEq] at H
  obtain ⟨rfl, rfl, rfl⟩ := H
  go_enter Try.func66, Try.ntmps66
  go_wp2_with (first | (go_at_call 68; (with_reducible refine (block_May.calls (wrap64 (a0 / 2)) true _ A3.out).mono ?_); rintro e w' ⟨rfl, ⟨nd, rfl⟩⟩))
  go_ret3
  exact ⟨by first | rfl | (simp; done) | (simp [*]; done), by repeat (first | exact Drawn0.refl _ | apply Drawn0.step)⟩
 replace c4 := Bool.eq_false_iff.mpr c4
 subst c4
 have H1 : (some (0, false, false)) = some (r1, r2, r3) := by rw [if_neg (show ¬ (false = true) by decide)] at H; exact H
 clear H
 have H := H1
 clear H1
 simp only [Option.some.injEq, Prod.mk.injEq] at H
 obtain ⟨rfl, rfl, rfl⟩ := H
 go_enter Try.func66, Try.ntmps66
 go_wp2_with (first | (go_at_call 68; (with_reducible refine (block_May.calls (wrap64 (a0 / 2)) false _ A3.out).mono ?_); rintro e w' ⟨rfl, ⟨nd, rfl⟩⟩))
 go_ret3
 exact ⟨by first | rfl | (simp; done) | (simp [*]; done), by repeat (first | exact Drawn0.refl _ | apply Drawn0.step)⟩

end Go.Proofs.Ytglekonhdjploaa.XImageForms
