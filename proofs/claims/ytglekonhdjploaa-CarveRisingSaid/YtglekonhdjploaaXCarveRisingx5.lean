-- Laid by this session's own printer (wip/xprint.py): each Go function that the law reaches as a plain Lean function, and that the call comes to it.
import Derived.Test.YtglekonhdjploaaXCarveRisingx0
import Derived.Test.YtglekonhdjploaaXCarveRisingx1
import Derived.Test.YtglekonhdjploaaXCarveRisingx3
import Derived.Test.YtglekonhdjploaaXCarveRisingx4
namespace Go.Proofs.Ytglekonhdjploaa.XCarveRising
open Go.RowKit Go.Proofs.YtglekonhdjploaaW.PrintWords Go.Proofs.YtglekonhdjploaaW.PrintLast Go.Proofs.YtglekonhdjploaaW.PrintMore
attribute [local go_sem] max2_int min2_int max_two min_two max_three min_three max_four min_four   -- for this text's walks alone
set_option linter.unusedVariables false
set_option linter.unusedSimpArgs false

/-! ### darninglaw16_CarveRising: function 8 -/
mutual
def darninglaw16_CarveRising.j0 : Nat → List (S35) → Int → Int → Bool → Option (Bool)
  | 0, _, _, _, _ => none
  | k + 1, x0, x2, x3, x25 => if x25 = true then ((darninglaw16_awake.f k).bind fun t190 => (some t190)) else (if (IntKind.u64.wrap ((x0.length : Int))) = 0 then (none) else ((carve_Edits.f k x0 (wrap64 (Int.tmod (IntKind.u64.wrap (x2)) (IntKind.u64.wrap ((x0.length : Int))))) (wrap64 (2 + (wrap64 (Int.tmod (IntKind.u64.wrap (x3)) 60))))).bind fun t191 => (darninglaw16_CarveRising.l0 k x0 (wrap64 (Int.tmod (IntKind.u64.wrap (x2)) (IntKind.u64.wrap ((x0.length : Int))))) (wrap64 (2 + (wrap64 (Int.tmod (IntKind.u64.wrap (x3)) 60)))) t191 (t191.length : Int) 0)))
def darninglaw16_CarveRising.l0 : Nat → List (S35) → Int → Int → List (S30) → Int → Int → Option (Bool)
  | 0, _, _, _, _, _, _ => none
  | k + 1, x0, x2, x3, x9, x44, x45 => if x45 < x44 then (if 0 ≤ x45 then (if x45 < (x9.length : Int) then (if 0 ≤ x2 then (if x2 < (x0.length : Int) then (if ((rd_T30 x9 x45).f0) = (wrap64 (((rd_T35 x0 x2).f0) + x45)) then (darninglaw16_CarveRising.l0 k x0 x2 x3 x9 x44 (wrap64 (x45 + 1))) else (some false)) else (none)) else (none)) else (none)) else (none)) else (if 0 ≤ x2 then (if x2 < (x0.length : Int) then (if ((rd_T35 x0 x2).f2 = true) then (if (x9.length : Int) = 0 then ((darninglaw16_awake.f k).bind fun t197 => (some t197)) else (some false)) else ((darningref4_Takes.f k ((rd_T35 x0 x2).f1) x3).bind fun t199 => (if t199 > 0 then (if t199 < ((rd_T35 x0 x2).f1) then (if (x9.length : Int) = (wrap64 (t199 + 1)) then ((darninglaw16_awake.f k).bind fun t201 => (some t201)) else (some false)) else (if (x9.length : Int) = t199 then ((darninglaw16_awake.f k).bind fun t202 => (some t202)) else (some false))) else (if (x9.length : Int) = t199 then ((darninglaw16_awake.f k).bind fun t203 => (some t203)) else (some false))))) else (none)) else (none))
end
def darninglaw16_CarveRising.f (k : Nat) (l0 : List (S35)) (a1 : Int) (a2 : Int) (a3 : Int) : Option (Bool) := if (l0.length : Int) > 300 then (darninglaw16_CarveRising.j0 k l0 a2 a3 true) else (if (l0.length : Int) = 0 then (darninglaw16_CarveRising.j0 k l0 a2 a3 true) else ((darningref4_MayBlocks.f k l0 a1).bind fun t189 => (darninglaw16_CarveRising.j0 k l0 a2 a3 (!t189))))
theorem darninglaw16_CarveRising.mono_l : ∀ k, (∀ y0 y1 y2 y3, LeO (darninglaw16_CarveRising.j0 k y0 y1 y2 y3) (darninglaw16_CarveRising.j0 (k + 1) y0 y1 y2 y3)) ∧ (∀ y0 y1 y2 y3 y4 y5, LeO (darninglaw16_CarveRising.l0 k y0 y1 y2 y3 y4 y5) (darninglaw16_CarveRising.l0 (k + 1) y0 y1 y2 y3 y4 y5))
  | 0 => ⟨fun _ _ _ _ r h => by simp [darninglaw16_CarveRising.j0] at h, fun _ _ _ _ _ _ r h => by simp [darninglaw16_CarveRising.l0] at h⟩
  | k + 1 => by
    obtain ⟨ih0, ih1⟩ := darninglaw16_CarveRising.mono_l k
    refine ⟨?_, ?_⟩
    · intro y0 y1 y2 y3
      unfold darninglaw16_CarveRising.j0
      repeat' first
      | (with_reducible exact ih0 _ _ _ _)
      | (with_reducible exact ih1 _ _ _ _ _ _)
      | (with_reducible exact carve_Edits.mono _ _ _ _)
      | (with_reducible exact darninglaw16_awake.mono _)
      | (with_reducible exact darningref4_MayBlocks.mono _ _ _)
      | (with_reducible exact darningref4_Takes.mono _ _ _)
      | (with_reducible exact LeO.refl _)
      | (with_reducible exact LeO.none _)
      | (with_reducible refine LeO.ite ?_ ?_)
      | (with_reducible refine LeO.bind ?_ (fun _ => ?_))
      | exact ih0 _ _ _ _
      | exact ih1 _ _ _ _ _ _
      | exact carve_Edits.mono _ _ _ _
      | exact darninglaw16_awake.mono _
      | exact darningref4_MayBlocks.mono _ _ _
      | exact darningref4_Takes.mono _ _ _
      | exact LeO.none _
      | refine LeO.ite ?_ ?_
      | refine LeO.bind ?_ (fun _ => ?_)
    · intro y0 y1 y2 y3 y4 y5
      unfold darninglaw16_CarveRising.l0
      repeat' first
      | (with_reducible exact ih0 _ _ _ _)
      | (with_reducible exact ih1 _ _ _ _ _ _)
      | (with_reducible exact carve_Edits.mono _ _ _ _)
      | (with_reducible exact darninglaw16_awake.mono _)
      | (with_reducible exact darningref4_MayBlocks.mono _ _ _)
      | (with_reducible exact darningref4_Takes.mono _ _ _)
      | (with_reducible exact LeO.refl _)
      | (with_reducible exact LeO.none _)
      | (with_reducible refine LeO.ite ?_ ?_)
      | (with_reducible refine LeO.bind ?_ (fun _ => ?_))
      | exact ih0 _ _ _ _
      | exact ih1 _ _ _ _ _ _
      | exact carve_Edits.mono _ _ _ _
      | exact darninglaw16_awake.mono _
      | exact darningref4_MayBlocks.mono _ _ _
      | exact darningref4_Takes.mono _ _ _
      | exact LeO.none _
      | refine LeO.ite ?_ ?_
      | refine LeO.bind ?_ (fun _ => ?_)
theorem darninglaw16_CarveRising.mono : ∀ a0 a1 a2 a3 k, LeO (darninglaw16_CarveRising.f k a0 a1 a2 a3) (darninglaw16_CarveRising.f (k + 1) a0 a1 a2 a3) := by
  intro a0 a1 a2 a3 k
  obtain ⟨ih0, ih1⟩ := darninglaw16_CarveRising.mono_l k
  unfold darninglaw16_CarveRising.f
  repeat' first
      | (with_reducible exact ih0 _ _ _ _)
      | (with_reducible exact ih1 _ _ _ _ _ _)
      | (with_reducible exact carve_Edits.mono _ _ _ _)
      | (with_reducible exact darninglaw16_awake.mono _)
      | (with_reducible exact darningref4_MayBlocks.mono _ _ _)
      | (with_reducible exact darningref4_Takes.mono _ _ _)
      | (with_reducible exact LeO.refl _)
      | (with_reducible exact LeO.none _)
      | (with_reducible refine LeO.ite ?_ ?_)
      | (with_reducible refine LeO.bind ?_ (fun _ => ?_))
      | exact ih0 _ _ _ _
      | exact ih1 _ _ _ _ _ _
      | exact carve_Edits.mono _ _ _ _
      | exact darninglaw16_awake.mono _
      | exact darningref4_MayBlocks.mono _ _ _
      | exact darningref4_Takes.mono _ _ _
      | exact LeO.none _
      | refine LeO.ite ?_ ?_
      | refine LeO.bind ?_ (fun _ => ?_)
set_option maxHeartbeats 8000000 in
set_option maxRecDepth 100000 in
theorem darninglaw16_CarveRising.calls (k : Nat) (A0 : Option Addr) (c0 : Nat) (l0 : List (S35)) (a1 : Int) (a2 : Int) (a3 : Int) (r : Bool) (w : World) (hr0 : Kd.C k35 w A0 l0.length l0) (hc0 : l0.length ≤ c0) (h : darninglaw16_CarveRising.f k l0 a1 a2 a3 = some r) :
    Calls Try.prog 8 #[.slice A0 l0.length c0, .int .i64 a1, .int .i64 a2, .int .i64 a3] w fun e w' => e = .returned (.bool r) ∧ Below w.heap.size w w' := by
  have HR0 := Aside0.mk hr0
  have HC0 := Aside0.mk hc0
  clear hr0 hc0
  have HB := Aside0.mk (Below.refl w.heap.size w)
  have H : (if (l0.length : Int) > 300 then (darninglaw16_CarveRising.j0 k l0 a2 a3 true) else (if (l0.length : Int) = 0 then (darninglaw16_CarveRising.j0 k l0 a2 a3 true) else ((darningref4_MayBlocks.f k l0 a1).bind fun t189 => (darninglaw16_CarveRising.j0 k l0 a2 a3 (!t189))))) = some r := h
  clear h
  have HC5 := Aside0.mk H
  clear H
  go_enter Try.func8, Try.ntmps8
  go_upto_region 1 with (fail)
  repeat (go_quiet (fail); go_upto_region 1 with (fail))
  go_cut [25] (fun v25 wc => ∃ (kq : Nat) (x25_4 : Bool), v25 = .bool x25_4 ∧ Aside0 (darninglaw16_CarveRising.j0 kq l0 a2 a3 x25_4 = some r) ∧ Aside0 (kq ≤ k) ∧ Aside0 (Below w.heap.size w wc))
  case first =>
    have H := HC5.out
    clear HC5
    by_cases c6 : (l0.length : Int) > 300
    · rw [if_pos c6] at H
      have c6b0 : decide (300 < (l0.length : Int)) = true := decide_eq_true c6
      have c6b1 : decide (300 < l0.length) = true := decide_eq_true (by omega)
      clear c6
      (first | rw [c6b0] | (simp only [i64_w, i32_w]; rw [c6b0]) | skip)
      have H' := Aside0.mk H
      clear H
      go_wp2
      repeat (go_quiet (fail); try go_wp2)
      go_meet
      case rel => exact ⟨_, (true), (by first | rfl | (simp; done) | (simp [*]; done)), H', ⟨by first | omega | exact Nat.le_refl _⟩, ⟨by repeat (first | (with_reducible first | exact HB.out | apply below_alloc | apply pw_below_drewN | apply below_drew1) | exact HB.out)⟩⟩
    · rw [if_neg c6] at H
      have c6b0 : decide (300 < (l0.length : Int)) = false := decide_eq_false c6
      have c6b1 : decide (300 < l0.length) = false := decide_eq_false (by omega)
      clear c6
      (first | rw [c6b0] | (simp only [i64_w, i32_w]; rw [c6b0]) | skip)
      by_cases c7 : (l0.length : Int) = 0
      · rw [if_pos c7] at H
        have c7b0 : ((l0.length : Int) == 0) = true := beq_iff_eq.mpr c7
        have c7b1 : ((l0.length : Int) != 0) = false := bne_eq_false_iff_eq.mpr c7
        clear c7
        have H' := Aside0.mk H
        clear H
        go_wp2
        repeat (go_quiet (fail); try go_wp2)
        go_meet
        case rel => exact ⟨_, (true), (by first | rfl | (simp; done) | (simp [*]; done)), H', ⟨by first | omega | exact Nat.le_refl _⟩, ⟨by repeat (first | (with_reducible first | exact HB.out | apply below_alloc | apply pw_below_drewN | apply below_drew1) | exact HB.out)⟩⟩
      · rw [if_neg c7] at H
        have c7b0 : ((l0.length : Int) == 0) = false := beq_eq_false_iff_ne.mpr c7
        have c7b1 : ((l0.length : Int) != 0) = true := bne_iff_ne.mpr c7
        have c7b2 : ¬ (l0 = []) := fun h_ => c7 (by rw [h_]; rfl)
        replace H := Option.bind_eq_some_iff.mp H
        obtain ⟨t189, A80, H⟩ := H
        replace H : (darninglaw16_CarveRising.j0 k l0 a2 a3 (!t189)) = some r := H
        have A8 := Aside0.mk A80
        clear A80
        have H' := Aside0.mk H
        clear H
        go_wp2_with (first | (go_at_call 21; (with_reducible refine (darningref4_MayBlocks.calls k _ _ l0 a1 t189 _ ?side1 ?side2 A8.out).mono ?_); (case side1 => repeat (first | exact (Kd.C_below HR0.out HB.out) | (with_reducible refine Kd.C_alloc ?_ _) | (with_reducible refine Kd.C_drewN ?_ _) | (with_reducible refine Kd.C_drew ?_))); (case side2 => exact HC0.out); rintro e w9 ⟨rfl, hb⟩; have n0_ := Aside0.mk (below_step (by repeat (first | (with_reducible first | exact HB.out | apply below_alloc | apply pw_below_drewN | apply below_drew1) | exact HB.out)) hb); clear HB; have HB := n0_; clear n0_; (try clear hb); (try clear hb2); (try clear hk); (try clear hi)))
        repeat (go_quiet (first | (go_at_call 21; (with_reducible refine (darningref4_MayBlocks.calls k _ _ l0 a1 t189 _ ?side1 ?side2 A8.out).mono ?_); (case side1 => repeat (first | exact (Kd.C_below HR0.out HB.out) | (with_reducible refine Kd.C_alloc ?_ _) | (with_reducible refine Kd.C_drewN ?_ _) | (with_reducible refine Kd.C_drew ?_))); (case side2 => exact HC0.out); rintro e w9 ⟨rfl, hb⟩; have n0_ := Aside0.mk (below_step (by repeat (first | (with_reducible first | exact HB.out | apply below_alloc | apply pw_below_drewN | apply below_drew1) | exact HB.out)) hb); clear HB; have HB := n0_; clear n0_; (try clear hb); (try clear hb2); (try clear hk); (try clear hi))); try go_wp2_with (first | (go_at_call 21; (with_reducible refine (darningref4_MayBlocks.calls k _ _ l0 a1 t189 _ ?side1 ?side2 A8.out).mono ?_); (case side1 => repeat (first | exact (Kd.C_below HR0.out HB.out) | (with_reducible refine Kd.C_alloc ?_ _) | (with_reducible refine Kd.C_drewN ?_ _) | (with_reducible refine Kd.C_drew ?_))); (case side2 => exact HC0.out); rintro e w9 ⟨rfl, hb⟩; have n0_ := Aside0.mk (below_step (by repeat (first | (with_reducible first | exact HB.out | apply below_alloc | apply pw_below_drewN | apply below_drew1) | exact HB.out)) hb); clear HB; have HB := n0_; clear n0_; (try clear hb); (try clear hb2); (try clear hk); (try clear hi))))
        go_meet
        case rel => exact ⟨_, (!t189), (by first | rfl | (simp; done) | (simp [*]; done)), H', ⟨by first | omega | exact Nat.le_refl _⟩, ⟨by repeat (first | (with_reducible first | exact HB.out | apply below_alloc | apply pw_below_drewN | apply below_drew1) | exact HB.out)⟩⟩
  case rest =>
    clear HC5
    try clear p2
    try clear c6
    try clear c6b0
    try clear c6b1
    try clear c7
    try clear c7b0
    try clear c7b1
    try clear c7b2
    try clear c8
    obtain ⟨kq, x25_4, rfl, HA, HJ4, HB⟩ := hcut
    cases kq with
    | zero => exact absurd HA.out (by simp [darninglaw16_CarveRising.j0])
    | succ kj4 =>
      have H := HA.out
      clear HA
      simp only [darninglaw16_CarveRising.j0] at H
      by_cases c10 : x25_4 = true
      · subst c10
        have H1 : ((darninglaw16_awake.f kj4).bind fun t190 => (some t190)) = some r := by rw [if_pos rfl] at H; exact H
        clear H
        have H := H1
        clear H1
        replace H := Option.bind_eq_some_iff.mp H
        obtain ⟨t190, A110, H⟩ := H
        replace H : (some t190) = some r := H
        have A11 := Aside0.mk A110
        clear A110
        obtain rfl := Option.some.inj H
        go_wp2_with (first | (go_at_call 22; (with_reducible refine (darninglaw16_awake.calls kj4  t190 _ A11.out).mono ?_); rintro e w12 ⟨rfl, hb⟩; have n0_ := Aside0.mk (below_step (by repeat (first | (with_reducible first | exact HB.out | apply below_alloc | apply pw_below_drewN | apply below_drew1) | exact HB.out)) hb); clear HB; have HB := n0_; clear n0_; (try clear hb); (try clear hb2); (try clear hk); (try clear hi)))
        repeat (go_quiet (first | (go_at_call 22; (with_reducible refine (darninglaw16_awake.calls kj4  t190 _ A11.out).mono ?_); rintro e w12 ⟨rfl, hb⟩; have n0_ := Aside0.mk (below_step (by repeat (first | (with_reducible first | exact HB.out | apply below_alloc | apply pw_below_drewN | apply below_drew1) | exact HB.out)) hb); clear HB; have HB := n0_; clear n0_; (try clear hb); (try clear hb2); (try clear hk); (try clear hi))); try go_wp2_with (first | (go_at_call 22; (with_reducible refine (darninglaw16_awake.calls kj4  t190 _ A11.out).mono ?_); rintro e w12 ⟨rfl, hb⟩; have n0_ := Aside0.mk (below_step (by repeat (first | (with_reducible first | exact HB.out | apply below_alloc | apply pw_below_drewN | apply below_drew1) | exact HB.out)) hb); clear HB; have HB := n0_; clear n0_; (try clear hb); (try clear hb2); (try clear hk); (try clear hi))))
        go_ret
        exact ⟨by first | rfl | (simp [errW_none, errW_some] <;> rfl) | (simp [*, errW_none, errW_some] <;> rfl), by repeat (first | (with_reducible first | exact HB.out | apply below_alloc | apply pw_below_drewN | apply below_drew1) | exact HB.out)⟩
      · replace c10 := Bool.eq_false_iff.mpr c10
        subst c10
        have H1 : (if (IntKind.u64.wrap ((l0.length : Int))) = 0 then (none) else ((carve_Edits.f kj4 l0 (wrap64 (Int.tmod (IntKind.u64.wrap (a2)) (IntKind.u64.wrap ((l0.length : Int))))) (wrap64 (2 + (wrap64 (Int.tmod (IntKind.u64.wrap (a3)) 60))))).bind fun t191 => (darninglaw16_CarveRising.l0 kj4 l0 (wrap64 (Int.tmod (IntKind.u64.wrap (a2)) (IntKind.u64.wrap ((l0.length : Int))))) (wrap64 (2 + (wrap64 (Int.tmod (IntKind.u64.wrap (a3)) 60)))) t191 (t191.length : Int) 0))) = some r := by rw [if_neg (show ¬ (false = true) by decide)] at H; exact H
        clear H
        have H := H1
        clear H1
        by_cases c13 : (IntKind.u64.wrap ((l0.length : Int))) = 0
        · rw [if_pos c13] at H
          exact absurd H (by simp)
        · rw [if_neg c13] at H
          have c13b0 : ((IntKind.u64.wrap ((l0.length : Int))) == 0) = false := beq_eq_false_iff_ne.mpr c13
          have c13b1 : ((IntKind.u64.wrap ((l0.length : Int))) != 0) = true := bne_iff_ne.mpr c13
          replace H := Option.bind_eq_some_iff.mp H
          obtain ⟨t191, A140, H⟩ := H
          replace H : (darninglaw16_CarveRising.l0 kj4 l0 (wrap64 (Int.tmod (IntKind.u64.wrap (a2)) (IntKind.u64.wrap ((l0.length : Int))))) (wrap64 (2 + (wrap64 (Int.tmod (IntKind.u64.wrap (a3)) 60)))) t191 (t191.length : Int) 0) = some r := H
          have A14 := Aside0.mk A140
          clear A140
          have H' := Aside0.mk H
          clear H
          go_wp2_with (first | (go_at_call 26; (with_reducible refine (carve_Edits.calls kj4 _ _ l0 (wrap64 (Int.tmod (IntKind.u64.wrap (a2)) (IntKind.u64.wrap ((l0.length : Int))))) (wrap64 (2 + (wrap64 (Int.tmod (IntKind.u64.wrap (a3)) 60)))) t191 _ ?side1 ?side2 A14.out).mono ?_); (case side1 => repeat (first | exact (Kd.C_below HR0.out HB.out) | (with_reducible refine Kd.C_alloc ?_ _) | (with_reducible refine Kd.C_drewN ?_ _) | (with_reducible refine Kd.C_drew ?_))); (case side2 => exact HC0.out); rintro e w15 ⟨v192, rfl, ho0, hb⟩; have n0_ := Aside0.mk (Kd.R_lower ho0 (below_size (by repeat (first | (with_reducible first | exact HB.out | apply below_alloc | apply pw_below_drewN | apply below_drew1) | exact HB.out)))); have n1_ := Aside0.mk (below_step (by repeat (first | (with_reducible first | exact HB.out | apply below_alloc | apply pw_below_drewN | apply below_drew1) | exact HB.out)) hb); clear HB; have HO193 := n0_; have HB := n1_; clear n0_ n1_; (try clear hb); (try clear hb2); (try clear hk); (try clear hi); (try clear ho0); obtain ⟨Ao16, co16, eo16⟩ := Kd.R_slice HO193.out; subst eo16))
          repeat (go_quiet (first | (go_at_call 26; (with_reducible refine (carve_Edits.calls kj4 _ _ l0 (wrap64 (Int.tmod (IntKind.u64.wrap (a2)) (IntKind.u64.wrap ((l0.length : Int))))) (wrap64 (2 + (wrap64 (Int.tmod (IntKind.u64.wrap (a3)) 60)))) t191 _ ?side1 ?side2 A14.out).mono ?_); (case side1 => repeat (first | exact (Kd.C_below HR0.out HB.out) | (with_reducible refine Kd.C_alloc ?_ _) | (with_reducible refine Kd.C_drewN ?_ _) | (with_reducible refine Kd.C_drew ?_))); (case side2 => exact HC0.out); rintro e w15 ⟨v192, rfl, ho0, hb⟩; have n0_ := Aside0.mk (Kd.R_lower ho0 (below_size (by repeat (first | (with_reducible first | exact HB.out | apply below_alloc | apply pw_below_drewN | apply below_drew1) | exact HB.out)))); have n1_ := Aside0.mk (below_step (by repeat (first | (with_reducible first | exact HB.out | apply below_alloc | apply pw_below_drewN | apply below_drew1) | exact HB.out)) hb); clear HB; have HO193 := n0_; have HB := n1_; clear n0_ n1_; (try clear hb); (try clear hb2); (try clear hk); (try clear hi); (try clear ho0); obtain ⟨Ao16, co16, eo16⟩ := Kd.R_slice HO193.out; subst eo16)); try go_wp2_with (first | (go_at_call 26; (with_reducible refine (carve_Edits.calls kj4 _ _ l0 (wrap64 (Int.tmod (IntKind.u64.wrap (a2)) (IntKind.u64.wrap ((l0.length : Int))))) (wrap64 (2 + (wrap64 (Int.tmod (IntKind.u64.wrap (a3)) 60)))) t191 _ ?side1 ?side2 A14.out).mono ?_); (case side1 => repeat (first | exact (Kd.C_below HR0.out HB.out) | (with_reducible refine Kd.C_alloc ?_ _) | (with_reducible refine Kd.C_drewN ?_ _) | (with_reducible refine Kd.C_drew ?_))); (case side2 => exact HC0.out); rintro e w15 ⟨v192, rfl, ho0, hb⟩; have n0_ := Aside0.mk (Kd.R_lower ho0 (below_size (by repeat (first | (with_reducible first | exact HB.out | apply below_alloc | apply pw_below_drewN | apply below_drew1) | exact HB.out)))); have n1_ := Aside0.mk (below_step (by repeat (first | (with_reducible first | exact HB.out | apply below_alloc | apply pw_below_drewN | apply below_drew1) | exact HB.out)) hb); clear HB; have HO193 := n0_; have HB := n1_; clear n0_ n1_; (try clear hb); (try clear hb2); (try clear hk); (try clear hi); (try clear ho0); obtain ⟨Ao16, co16, eo16⟩ := Kd.R_slice HO193.out; subst eo16)))
          go_loopg [45] kj4 (fun kq v45 w' => ∃ (x45_2 : Int), v45 = .int .i64 x45_2 ∧ Aside0 (darninglaw16_CarveRising.l0 kq l0 (wrap64 (Int.tmod (IntKind.u64.wrap (a2)) (IntKind.u64.wrap ((l0.length : Int))))) (wrap64 (2 + (wrap64 (Int.tmod (IntKind.u64.wrap (a3)) 60)))) t191 (t191.length : Int) x45_2 = some r) ∧ Aside0 (kq ≤ kj4) ∧ Aside0 (Kd.R k30 30 w' w.heap.size (fun _ => True) (.slice Ao16 t191.length co16) t191) ∧ Aside0 (Below w.heap.size w w'))
          case atStart => exact ⟨(0), (by first | rfl | (simp; done) | (simp [*]; done)), H', ⟨Nat.le_refl _⟩, ⟨by (with_reducible repeat (first | apply Kd.R_alloc | apply Kd.R_drewN | apply Kd.R_drew)); exact HO193.out⟩, ⟨by repeat (first | (with_reducible first | exact HB.out | apply below_alloc | apply pw_below_drewN | apply below_drew1) | exact HB.out)⟩⟩
          case round =>
            clear H'
            try clear c1
            try clear p2
            try clear c6
            try clear c6b0
            try clear c6b1
            try clear p6
            try clear c7
            try clear c7b0
            try clear c7b1
            try clear c7b2
            try clear c8
            try clear c10
            try clear c13
            try clear c13b0
            try clear c13b1
            try clear p2
            obtain ⟨x45_2, rfl, HA, HK2, HO_9, HB⟩ := hrel
            cases gk with
            | zero => exact absurd HA.out (by simp [darninglaw16_CarveRising.l0])
            | succ k2 =>
              have H := HA.out
              clear HA
              simp only [darninglaw16_CarveRising.l0] at H
              by_cases c17 : x45_2 < (t191.length : Int)
              · rw [if_pos c17] at H
                have c17b0 : decide (x45_2 < (t191.length : Int)) = true := decide_eq_true c17
                clear c17
                by_cases c18 : 0 ≤ x45_2
                · rw [if_pos c18] at H
                  have c18b0 : decide (0 ≤ x45_2) = true := decide_eq_true c18
                  clear c18
                  by_cases c19 : x45_2 < (t191.length : Int)
                  · rw [if_pos c19] at H
                    have c19b0 : decide (x45_2 < (t191.length : Int)) = true := decide_eq_true c19
                    clear c19
                    obtain ⟨ji20, hji20⟩ : ∃ j_ : Int, (wrap64 (Int.tmod (IntKind.u64.wrap (a2)) (IntKind.u64.wrap ((l0.length : Int))))) = j_ := ⟨_, rfl⟩
                    replace H : (if 0 ≤ (ji20) then (if (ji20) < (l0.length : Int) then (if ((rd_T30 t191 x45_2).f0) = (wrap64 (((rd_T35 l0 (ji20)).f0) + x45_2)) then (darninglaw16_CarveRising.l0 k2 l0 (ji20) (wrap64 (2 + (wrap64 (Int.tmod (IntKind.u64.wrap (a3)) 60)))) t191 (t191.length : Int) (wrap64 (x45_2 + 1))) else (some false)) else (none)) else (none)) = some r := by first | (rw [hji20] at H; exact H) | (simp only [hji20] at H ⊢; exact H)
                    have hji20w : (IntKind.i64.wrap (Int.tmod (IntKind.u64.wrap (a2)) (IntKind.u64.wrap ((l0.length : Int))))) = ji20 := (i64_w _).trans hji20
                    by_cases c21 : 0 ≤ (ji20)
                    · rw [if_pos c21] at H
                      have c21b0 : decide (0 ≤ (ji20)) = true := decide_eq_true c21
                      clear c21
                      by_cases c22 : (ji20) < (l0.length : Int)
                      · rw [if_pos c22] at H
                        have c22b0 : decide ((ji20) < (l0.length : Int)) = true := decide_eq_true c22
                        clear c22
                        by_cases c23 : ((rd_T30 t191 x45_2).f0) = (wrap64 (((rd_T35 l0 (ji20)).f0) + x45_2))
                        · rw [if_pos c23] at H
                          have c23b0 : (((rd_T30 t191 x45_2).f0) == (wrap64 (((rd_T35 l0 (ji20)).f0) + x45_2))) = true := beq_iff_eq.mpr c23
                          have c23b1 : (((rd_T30 t191 x45_2).f0) != (wrap64 (((rd_T35 l0 (ji20)).f0) + x45_2))) = false := bne_eq_false_iff_eq.mpr c23
                          clear c23
                          have H' := Aside0.mk H
                          clear H
                          have p194 : 0 ≤ (x45_2 : Int) := of_decide_eq_true (by first | (with_reducible assumption) | assumption)
                          have q194 : x45_2 < (t191.length : Int) := of_decide_eq_true (by first | (with_reducible assumption) | assumption)
                          obtain ⟨ad194, e194, hx194_0, hx194_1⟩ := at_T30 (Kd.R_reads' HO_9.out).2.2 x45_2 p194 q194
                          cases e194
                          replace p194 := eq_true p194
                          replace q194 := eq_true q194
                          have p195 : 0 ≤ ((ji20) : Int) := of_decide_eq_true (by first | (with_reducible assumption) | assumption)
                          have q195 : (ji20) < (l0.length : Int) := of_decide_eq_true (by first | (with_reducible assumption) | assumption)
                          obtain ⟨ad195, e195, hx195_0, hx195_1, hx195_2⟩ := at_T35 HR0.out (ji20) p195 q195
                          cases e195
                          replace hx195_0 := (HB.out.cell (World.block_lt_of_cell? w _ hx195_0)).trans hx195_0
                          replace hx195_1 := (HB.out.cell (World.block_lt_of_cell? w _ hx195_1)).trans hx195_1
                          replace hx195_2 := (HB.out.cell (World.block_lt_of_cell? w _ hx195_2)).trans hx195_2
                          replace p195 := eq_true p195
                          replace q195 := eq_true q195
                          go_wp2
                          repeat (go_quiet (fail); try go_wp2)
                          go_roundg k2
                          case measure => have := HJ4.out; have := HK2.out; omega
                          case rel => exact ⟨(wrap64 (x45_2 + 1)), (by first | rfl | (simp; done) | (simp [*]; done)), (by first | exact H' | ((try rw [hji20]); exact H')), ⟨by have := HJ4.out; have := HK2.out; omega⟩, ⟨by (with_reducible repeat (first | apply Kd.R_alloc | apply Kd.R_drewN | apply Kd.R_drew)); exact HO_9.out⟩, ⟨by repeat (first | (with_reducible first | exact HB.out | apply below_alloc | apply pw_below_drewN | apply below_drew1) | exact HB.out)⟩⟩
                        · rw [if_neg c23] at H
                          have c23b0 : (((rd_T30 t191 x45_2).f0) == (wrap64 (((rd_T35 l0 (ji20)).f0) + x45_2))) = false := beq_eq_false_iff_ne.mpr c23
                          have c23b1 : (((rd_T30 t191 x45_2).f0) != (wrap64 (((rd_T35 l0 (ji20)).f0) + x45_2))) = true := bne_iff_ne.mpr c23
                          obtain rfl := Option.some.inj H
                          have p194 : 0 ≤ (x45_2 : Int) := of_decide_eq_true (by first | (with_reducible assumption) | assumption)
                          have q194 : x45_2 < (t191.length : Int) := of_decide_eq_true (by first | (with_reducible assumption) | assumption)
                          obtain ⟨ad194, e194, hx194_0, hx194_1⟩ := at_T30 (Kd.R_reads' HO_9.out).2.2 x45_2 p194 q194
                          cases e194
                          replace p194 := eq_true p194
                          replace q194 := eq_true q194
                          have p195 : 0 ≤ ((ji20) : Int) := of_decide_eq_true (by first | (with_reducible assumption) | assumption)
                          have q195 : (ji20) < (l0.length : Int) := of_decide_eq_true (by first | (with_reducible assumption) | assumption)
                          obtain ⟨ad195, e195, hx195_0, hx195_1, hx195_2⟩ := at_T35 HR0.out (ji20) p195 q195
                          cases e195
                          replace hx195_0 := (HB.out.cell (World.block_lt_of_cell? w _ hx195_0)).trans hx195_0
                          replace hx195_1 := (HB.out.cell (World.block_lt_of_cell? w _ hx195_1)).trans hx195_1
                          replace hx195_2 := (HB.out.cell (World.block_lt_of_cell? w _ hx195_2)).trans hx195_2
                          replace p195 := eq_true p195
                          replace q195 := eq_true q195
                          go_wp2
                          repeat (go_quiet (fail); try go_wp2)
                          go_ret
                          exact ⟨by first | rfl | (simp [errW_none, errW_some] <;> rfl) | (simp only [← hji20]; first | rfl | (simp [errW_none, errW_some] <;> rfl)) | (simp [*, errW_none, errW_some] <;> rfl), by repeat (first | (with_reducible first | exact HB.out | apply below_alloc | apply pw_below_drewN | apply below_drew1) | exact HB.out)⟩
                      · rw [if_neg c22] at H
                        exact absurd H (by simp)
                    · rw [if_neg c21] at H
                      exact absurd H (by simp)
                  · rw [if_neg c19] at H
                    exact absurd H (by simp)
                · rw [if_neg c18] at H
                  exact absurd H (by simp)
              · rw [if_neg c17] at H
                have c17b0 : decide (x45_2 < (t191.length : Int)) = false := decide_eq_false c17
                clear c17
                obtain ⟨ji24, hji24⟩ : ∃ j_ : Int, (wrap64 (Int.tmod (IntKind.u64.wrap (a2)) (IntKind.u64.wrap ((l0.length : Int))))) = j_ := ⟨_, rfl⟩
                replace H : (if 0 ≤ (ji24) then (if (ji24) < (l0.length : Int) then (if ((rd_T35 l0 (ji24)).f2 = true) then (if (t191.length : Int) = 0 then ((darninglaw16_awake.f k2).bind fun t197 => (some t197)) else (some false)) else ((darningref4_Takes.f k2 ((rd_T35 l0 (ji24)).f1) (wrap64 (2 + (wrap64 (Int.tmod (IntKind.u64.wrap (a3)) 60))))).bind fun t199 => (if t199 > 0 then (if t199 < ((rd_T35 l0 (ji24)).f1) then (if (t191.length : Int) = (wrap64 (t199 + 1)) then ((darninglaw16_awake.f k2).bind fun t201 => (some t201)) else (some false)) else (if (t191.length : Int) = t199 then ((darninglaw16_awake.f k2).bind fun t202 => (some t202)) else (some false))) else (if (t191.length : Int) = t199 then ((darninglaw16_awake.f k2).bind fun t203 => (some t203)) else (some false))))) else (none)) else (none)) = some r := by first | (rw [hji24] at H; exact H) | (simp only [hji24] at H ⊢; exact H)
                have hji24w : (IntKind.i64.wrap (Int.tmod (IntKind.u64.wrap (a2)) (IntKind.u64.wrap ((l0.length : Int))))) = ji24 := (i64_w _).trans hji24
                by_cases c25 : 0 ≤ (ji24)
                · rw [if_pos c25] at H
                  have c25b0 : decide (0 ≤ (ji24)) = true := decide_eq_true c25
                  clear c25
                  by_cases c26 : (ji24) < (l0.length : Int)
                  · rw [if_pos c26] at H
                    have c26b0 : decide ((ji24) < (l0.length : Int)) = true := decide_eq_true c26
                    clear c26
                    first | (generalize hbq27 : (rd_T35 l0 (ji24)).f2 = bq27 at *; replace hbq27 := hbq27.symm) | (obtain ⟨bq27, hbq27⟩ : ∃ b_ : Bool, b_ = ((rd_T35 l0 (ji24)).f2) := ⟨_, rfl⟩)
                    replace H : (if (bq27 = true) then (if (t191.length : Int) = 0 then ((darninglaw16_awake.f k2).bind fun t197 => (some t197)) else (some false)) else ((darningref4_Takes.f k2 ((rd_T35 l0 (ji24)).f1) (wrap64 (2 + (wrap64 (Int.tmod (IntKind.u64.wrap (a3)) 60))))).bind fun t199 => (if t199 > 0 then (if t199 < ((rd_T35 l0 (ji24)).f1) then (if (t191.length : Int) = (wrap64 (t199 + 1)) then ((darninglaw16_awake.f k2).bind fun t201 => (some t201)) else (some false)) else (if (t191.length : Int) = t199 then ((darninglaw16_awake.f k2).bind fun t202 => (some t202)) else (some false))) else (if (t191.length : Int) = t199 then ((darninglaw16_awake.f k2).bind fun t203 => (some t203)) else (some false))))) = some r := by first | exact H | (rw [← hbq27] at H; exact H)
                    have Nbq27 := Aside0.mk hbq27
                    clear hbq27
                    (try rw [← Nbq27.out])
                    by_cases c28 : (bq27 = true)
                    · subst c28
                      have H1 : (if (t191.length : Int) = 0 then ((darninglaw16_awake.f k2).bind fun t197 => (some t197)) else (some false)) = some r := by rw [if_pos rfl] at H; exact H
                      clear H
                      have H := H1
                      clear H1
                      by_cases c29 : (t191.length : Int) = 0
                      · rw [if_pos c29] at H
                        have c29b0 : ((t191.length : Int) == 0) = true := beq_iff_eq.mpr c29
                        have c29b1 : ((t191.length : Int) != 0) = false := bne_eq_false_iff_eq.mpr c29
                        clear c29
                        replace H := Option.bind_eq_some_iff.mp H
                        obtain ⟨t197, A300, H⟩ := H
                        replace H : (some t197) = some r := H
                        have A30 := Aside0.mk A300
                        clear A300
                        obtain rfl := Option.some.inj H
                        have p196 : 0 ≤ ((ji24) : Int) := of_decide_eq_true (by first | (with_reducible assumption) | assumption)
                        have q196 : (ji24) < (l0.length : Int) := of_decide_eq_true (by first | (with_reducible assumption) | assumption)
                        obtain ⟨ad196, e196, hx196_0, hx196_1, hx196_2⟩ := at_T35 HR0.out (ji24) p196 q196
                        (try rw [← Nbq27.out] at hx196_2)
                        cases e196
                        replace hx196_0 := (HB.out.cell (World.block_lt_of_cell? w _ hx196_0)).trans hx196_0
                        replace hx196_1 := (HB.out.cell (World.block_lt_of_cell? w _ hx196_1)).trans hx196_1
                        replace hx196_2 := (HB.out.cell (World.block_lt_of_cell? w _ hx196_2)).trans hx196_2
                        replace p196 := eq_true p196
                        replace q196 := eq_true q196
                        go_wp2_with (first | (go_at_call 22; (with_reducible refine (darninglaw16_awake.calls k2  t197 _ A30.out).mono ?_); rintro e w31 ⟨rfl, hb⟩; have n0_ := Aside0.mk (Kd.R_below (by (with_reducible repeat (first | apply Kd.R_alloc | apply Kd.R_drewN | apply Kd.R_drew)); exact HO_9.out) hb); have n1_ := Aside0.mk (below_step (by repeat (first | (with_reducible first | exact HB.out | apply below_alloc | apply pw_below_drewN | apply below_drew1) | exact HB.out)) hb); clear HO_9; clear HB; have HO_9 := n0_; have HB := n1_; clear n0_ n1_; (try clear hb); (try clear hb2); (try clear hk); (try clear hi)))
                        repeat (go_quiet (first | (go_at_call 22; (with_reducible refine (darninglaw16_awake.calls k2  t197 _ A30.out).mono ?_); rintro e w31 ⟨rfl, hb⟩; have n0_ := Aside0.mk (Kd.R_below (by (with_reducible repeat (first | apply Kd.R_alloc | apply Kd.R_drewN | apply Kd.R_drew)); exact HO_9.out) hb); have n1_ := Aside0.mk (below_step (by repeat (first | (with_reducible first | exact HB.out | apply below_alloc | apply pw_below_drewN | apply below_drew1) | exact HB.out)) hb); clear HO_9; clear HB; have HO_9 := n0_; have HB := n1_; clear n0_ n1_; (try clear hb); (try clear hb2); (try clear hk); (try clear hi))); try go_wp2_with (first | (go_at_call 22; (with_reducible refine (darninglaw16_awake.calls k2  t197 _ A30.out).mono ?_); rintro e w31 ⟨rfl, hb⟩; have n0_ := Aside0.mk (Kd.R_below (by (with_reducible repeat (first | apply Kd.R_alloc | apply Kd.R_drewN | apply Kd.R_drew)); exact HO_9.out) hb); have n1_ := Aside0.mk (below_step (by repeat (first | (with_reducible first | exact HB.out | apply below_alloc | apply pw_below_drewN | apply below_drew1) | exact HB.out)) hb); clear HO_9; clear HB; have HO_9 := n0_; have HB := n1_; clear n0_ n1_; (try clear hb); (try clear hb2); (try clear hk); (try clear hi))))
                        go_ret
                        exact ⟨by first | rfl | (simp [errW_none, errW_some] <;> rfl) | (simp only [← hji24]; first | rfl | (simp [errW_none, errW_some] <;> rfl)) | (simp [*, errW_none, errW_some] <;> rfl), by repeat (first | (with_reducible first | exact HB.out | apply below_alloc | apply pw_below_drewN | apply below_drew1) | exact HB.out)⟩
                      · rw [if_neg c29] at H
                        have c29b0 : ((t191.length : Int) == 0) = false := beq_eq_false_iff_ne.mpr c29
                        have c29b1 : ((t191.length : Int) != 0) = true := bne_iff_ne.mpr c29
                        have c29b2 : ¬ (t191 = []) := fun h_ => c29 (by rw [h_]; rfl)
                        obtain rfl := Option.some.inj H
                        have p196 : 0 ≤ ((ji24) : Int) := of_decide_eq_true (by first | (with_reducible assumption) | assumption)
                        have q196 : (ji24) < (l0.length : Int) := of_decide_eq_true (by first | (with_reducible assumption) | assumption)
                        obtain ⟨ad196, e196, hx196_0, hx196_1, hx196_2⟩ := at_T35 HR0.out (ji24) p196 q196
                        (try rw [← Nbq27.out] at hx196_2)
                        cases e196
                        replace hx196_0 := (HB.out.cell (World.block_lt_of_cell? w _ hx196_0)).trans hx196_0
                        replace hx196_1 := (HB.out.cell (World.block_lt_of_cell? w _ hx196_1)).trans hx196_1
                        replace hx196_2 := (HB.out.cell (World.block_lt_of_cell? w _ hx196_2)).trans hx196_2
                        replace p196 := eq_true p196
                        replace q196 := eq_true q196
                        go_wp2
                        repeat (go_quiet (fail); try go_wp2)
                        go_ret
                        exact ⟨by first | rfl | (simp [errW_none, errW_some] <;> rfl) | (simp only [← hji24]; first | rfl | (simp [errW_none, errW_some] <;> rfl)) | (simp [*, errW_none, errW_some] <;> rfl), by repeat (first | (with_reducible first | exact HB.out | apply below_alloc | apply pw_below_drewN | apply below_drew1) | exact HB.out)⟩
                    · replace c28 := Bool.eq_false_iff.mpr c28
                      subst c28
                      have H1 : ((darningref4_Takes.f k2 ((rd_T35 l0 (ji24)).f1) (wrap64 (2 + (wrap64 (Int.tmod (IntKind.u64.wrap (a3)) 60))))).bind fun t199 => (if t199 > 0 then (if t199 < ((rd_T35 l0 (ji24)).f1) then (if (t191.length : Int) = (wrap64 (t199 + 1)) then ((darninglaw16_awake.f k2).bind fun t201 => (some t201)) else (some false)) else (if (t191.length : Int) = t199 then ((darninglaw16_awake.f k2).bind fun t202 => (some t202)) else (some false))) else (if (t191.length : Int) = t199 then ((darninglaw16_awake.f k2).bind fun t203 => (some t203)) else (some false)))) = some r := by rw [if_neg (show ¬ (false = true) by decide)] at H; exact H
                      clear H
                      have H := H1
                      clear H1
                      replace H := Option.bind_eq_some_iff.mp H
                      obtain ⟨t199, A320, H⟩ := H
                      replace H : (if t199 > 0 then (if t199 < ((rd_T35 l0 (ji24)).f1) then (if (t191.length : Int) = (wrap64 (t199 + 1)) then ((darninglaw16_awake.f k2).bind fun t201 => (some t201)) else (some false)) else (if (t191.length : Int) = t199 then ((darninglaw16_awake.f k2).bind fun t202 => (some t202)) else (some false))) else (if (t191.length : Int) = t199 then ((darninglaw16_awake.f k2).bind fun t203 => (some t203)) else (some false))) = some r := H
                      have A32 := Aside0.mk A320
                      clear A320
                      by_cases c33 : t199 > 0
                      · rw [if_pos c33] at H
                        have c33b0 : decide (0 < t199) = true := decide_eq_true c33
                        clear c33
                        by_cases c34 : t199 < ((rd_T35 l0 (ji24)).f1)
                        · rw [if_pos c34] at H
                          have c34b0 : decide (t199 < ((rd_T35 l0 (ji24)).f1)) = true := decide_eq_true c34
                          clear c34
                          by_cases c35 : (t191.length : Int) = (wrap64 (t199 + 1))
                          · rw [if_pos c35] at H
                            have c35b0 : ((t191.length : Int) == (wrap64 (t199 + 1))) = true := beq_iff_eq.mpr c35
                            have c35b1 : ((t191.length : Int) != (wrap64 (t199 + 1))) = false := bne_eq_false_iff_eq.mpr c35
                            clear c35
                            replace H := Option.bind_eq_some_iff.mp H
                            obtain ⟨t201, A360, H⟩ := H
                            replace H : (some t201) = some r := H
                            have A36 := Aside0.mk A360
                            clear A360
                            obtain rfl := Option.some.inj H
                            have p196 : 0 ≤ ((ji24) : Int) := of_decide_eq_true (by first | (with_reducible assumption) | assumption)
                            have q196 : (ji24) < (l0.length : Int) := of_decide_eq_true (by first | (with_reducible assumption) | assumption)
                            obtain ⟨ad196, e196, hx196_0, hx196_1, hx196_2⟩ := at_T35 HR0.out (ji24) p196 q196
                            (try rw [← Nbq27.out] at hx196_2)
                            cases e196
                            replace hx196_0 := (HB.out.cell (World.block_lt_of_cell? w _ hx196_0)).trans hx196_0
                            replace hx196_1 := (HB.out.cell (World.block_lt_of_cell? w _ hx196_1)).trans hx196_1
                            replace hx196_2 := (HB.out.cell (World.block_lt_of_cell? w _ hx196_2)).trans hx196_2
                            replace p196 := eq_true p196
                            replace q196 := eq_true q196
                            have p198 : 0 ≤ ((ji24) : Int) := of_decide_eq_true (by first | (with_reducible assumption) | assumption)
                            have q198 : (ji24) < (l0.length : Int) := of_decide_eq_true (by first | (with_reducible assumption) | assumption)
                            obtain ⟨ad198, e198, hx198_0, hx198_1, hx198_2⟩ := at_T35 HR0.out (ji24) p198 q198
                            (try rw [← Nbq27.out] at hx198_2)
                            obtain rfl : ad196 = ad198 := (by injection e198)
                            replace hx198_0 := (HB.out.cell (World.block_lt_of_cell? w _ hx198_0)).trans hx198_0
                            replace hx198_1 := (HB.out.cell (World.block_lt_of_cell? w _ hx198_1)).trans hx198_1
                            replace hx198_2 := (HB.out.cell (World.block_lt_of_cell? w _ hx198_2)).trans hx198_2
                            replace p198 := eq_true p198
                            replace q198 := eq_true q198
                            go_wp2_with (first | (go_at_call 30; (with_reducible refine (darningref4_Takes.calls k2 ((rd_T35 l0 (ji24)).f1) (wrap64 (2 + (wrap64 (Int.tmod (IntKind.u64.wrap (a3)) 60)))) t199 _ A32.out).mono ?_); rintro e w' ⟨rfl, ⟨nd, rfl⟩⟩; (try first | exact ⟨rfl, _, World.drewN_drewN _ _ _⟩ | exact ⟨rfl, _, Eq.trans (World.drewN_drewN _ _ _) (congrArg (World.drewN _) (Nat.add_assoc _ _ _))⟩); have p200 : 0 ≤ ((ji24) : Int) := of_decide_eq_true (by first | (with_reducible assumption) | assumption); have q200 : (ji24) < (l0.length : Int) := of_decide_eq_true (by first | (with_reducible assumption) | assumption); obtain ⟨ad200, e200, hx200_0, hx200_1, hx200_2⟩ := at_T35 HR0.out (ji24) p200 q200; (try rw [← Nbq27.out] at hx200_2); obtain rfl : ad196 = ad200 := (by injection e200); replace hx200_0 := (HB.out.cell (World.block_lt_of_cell? w _ hx200_0)).trans hx200_0; replace hx200_1 := (HB.out.cell (World.block_lt_of_cell? w _ hx200_1)).trans hx200_1; replace hx200_2 := (HB.out.cell (World.block_lt_of_cell? w _ hx200_2)).trans hx200_2; replace p200 := eq_true p200; replace q200 := eq_true q200) | (go_at_call 22; (with_reducible refine (darninglaw16_awake.calls k2  t201 _ A36.out).mono ?_); rintro e w37 ⟨rfl, hb⟩; have n0_ := Aside0.mk (Kd.R_below (by (with_reducible repeat (first | apply Kd.R_alloc | apply Kd.R_drewN | apply Kd.R_drew)); exact HO_9.out) hb); have n1_ := Aside0.mk (below_step (by repeat (first | (with_reducible first | exact HB.out | apply below_alloc | apply pw_below_drewN | apply below_drew1) | exact HB.out)) hb); clear HO_9; clear HB; have HO_9 := n0_; have HB := n1_; clear n0_ n1_; (try clear hb); (try clear hb2); (try clear hk); (try clear hi)))
                            repeat (go_quiet (first | (go_at_call 30; (with_reducible refine (darningref4_Takes.calls k2 ((rd_T35 l0 (ji24)).f1) (wrap64 (2 + (wrap64 (Int.tmod (IntKind.u64.wrap (a3)) 60)))) t199 _ A32.out).mono ?_); rintro e w' ⟨rfl, ⟨nd, rfl⟩⟩; (try first | exact ⟨rfl, _, World.drewN_drewN _ _ _⟩ | exact ⟨rfl, _, Eq.trans (World.drewN_drewN _ _ _) (congrArg (World.drewN _) (Nat.add_assoc _ _ _))⟩); have p200 : 0 ≤ ((ji24) : Int) := of_decide_eq_true (by first | (with_reducible assumption) | assumption); have q200 : (ji24) < (l0.length : Int) := of_decide_eq_true (by first | (with_reducible assumption) | assumption); obtain ⟨ad200, e200, hx200_0, hx200_1, hx200_2⟩ := at_T35 HR0.out (ji24) p200 q200; (try rw [← Nbq27.out] at hx200_2); obtain rfl : ad196 = ad200 := (by injection e200); replace hx200_0 := (HB.out.cell (World.block_lt_of_cell? w _ hx200_0)).trans hx200_0; replace hx200_1 := (HB.out.cell (World.block_lt_of_cell? w _ hx200_1)).trans hx200_1; replace hx200_2 := (HB.out.cell (World.block_lt_of_cell? w _ hx200_2)).trans hx200_2; replace p200 := eq_true p200; replace q200 := eq_true q200) | (go_at_call 22; (with_reducible refine (darninglaw16_awake.calls k2  t201 _ A36.out).mono ?_); rintro e w37 ⟨rfl, hb⟩; have n0_ := Aside0.mk (Kd.R_below (by (with_reducible repeat (first | apply Kd.R_alloc | apply Kd.R_drewN | apply Kd.R_drew)); exact HO_9.out) hb); have n1_ := Aside0.mk (below_step (by repeat (first | (with_reducible first | exact HB.out | apply below_alloc | apply pw_below_drewN | apply below_drew1) | exact HB.out)) hb); clear HO_9; clear HB; have HO_9 := n0_; have HB := n1_; clear n0_ n1_; (try clear hb); (try clear hb2); (try clear hk); (try clear hi))); try go_wp2_with (first | (go_at_call 30; (with_reducible refine (darningref4_Takes.calls k2 ((rd_T35 l0 (ji24)).f1) (wrap64 (2 + (wrap64 (Int.tmod (IntKind.u64.wrap (a3)) 60)))) t199 _ A32.out).mono ?_); rintro e w' ⟨rfl, ⟨nd, rfl⟩⟩; (try first | exact ⟨rfl, _, World.drewN_drewN _ _ _⟩ | exact ⟨rfl, _, Eq.trans (World.drewN_drewN _ _ _) (congrArg (World.drewN _) (Nat.add_assoc _ _ _))⟩); have p200 : 0 ≤ ((ji24) : Int) := of_decide_eq_true (by first | (with_reducible assumption) | assumption); have q200 : (ji24) < (l0.length : Int) := of_decide_eq_true (by first | (with_reducible assumption) | assumption); obtain ⟨ad200, e200, hx200_0, hx200_1, hx200_2⟩ := at_T35 HR0.out (ji24) p200 q200; (try rw [← Nbq27.out] at hx200_2); obtain rfl : ad196 = ad200 := (by injection e200); replace hx200_0 := (HB.out.cell (World.block_lt_of_cell? w _ hx200_0)).trans hx200_0; replace hx200_1 := (HB.out.cell (World.block_lt_of_cell? w _ hx200_1)).trans hx200_1; replace hx200_2 := (HB.out.cell (World.block_lt_of_cell? w _ hx200_2)).trans hx200_2; replace p200 := eq_true p200; replace q200 := eq_true q200) | (go_at_call 22; (with_reducible refine (darninglaw16_awake.calls k2  t201 _ A36.out).mono ?_); rintro e w37 ⟨rfl, hb⟩; have n0_ := Aside0.mk (Kd.R_below (by (with_reducible repeat (first | apply Kd.R_alloc | apply Kd.R_drewN | apply Kd.R_drew)); exact HO_9.out) hb); have n1_ := Aside0.mk (below_step (by repeat (first | (with_reducible first | exact HB.out | apply below_alloc | apply pw_below_drewN | apply below_drew1) | exact HB.out)) hb); clear HO_9; clear HB; have HO_9 := n0_; have HB := n1_; clear n0_ n1_; (try clear hb); (try clear hb2); (try clear hk); (try clear hi))))
                            go_ret
                            exact ⟨by first | rfl | (simp [errW_none, errW_some] <;> rfl) | (simp only [← hji24]; first | rfl | (simp [errW_none, errW_some] <;> rfl)) | (simp [*, errW_none, errW_some] <;> rfl), by repeat (first | (with_reducible first | exact HB.out | apply below_alloc | apply pw_below_drewN | apply below_drew1) | exact HB.out)⟩
                          · rw [if_neg c35] at H
                            have c35b0 : ((t191.length : Int) == (wrap64 (t199 + 1))) = false := beq_eq_false_iff_ne.mpr c35
                            have c35b1 : ((t191.length : Int) != (wrap64 (t199 + 1))) = true := bne_iff_ne.mpr c35
                            obtain rfl := Option.some.inj H
                            have p196 : 0 ≤ ((ji24) : Int) := of_decide_eq_true (by first | (with_reducible assumption) | assumption)
                            have q196 : (ji24) < (l0.length : Int) := of_decide_eq_true (by first | (with_reducible assumption) | assumption)
                            obtain ⟨ad196, e196, hx196_0, hx196_1, hx196_2⟩ := at_T35 HR0.out (ji24) p196 q196
                            (try rw [← Nbq27.out] at hx196_2)
                            cases e196
                            replace hx196_0 := (HB.out.cell (World.block_lt_of_cell? w _ hx196_0)).trans hx196_0
                            replace hx196_1 := (HB.out.cell (World.block_lt_of_cell? w _ hx196_1)).trans hx196_1
                            replace hx196_2 := (HB.out.cell (World.block_lt_of_cell? w _ hx196_2)).trans hx196_2
                            replace p196 := eq_true p196
                            replace q196 := eq_true q196
                            have p198 : 0 ≤ ((ji24) : Int) := of_decide_eq_true (by first | (with_reducible assumption) | assumption)
                            have q198 : (ji24) < (l0.length : Int) := of_decide_eq_true (by first | (with_reducible assumption) | assumption)
                            obtain ⟨ad198, e198, hx198_0, hx198_1, hx198_2⟩ := at_T35 HR0.out (ji24) p198 q198
                            (try rw [← Nbq27.out] at hx198_2)
                            obtain rfl : ad196 = ad198 := (by injection e198)
                            replace hx198_0 := (HB.out.cell (World.block_lt_of_cell? w _ hx198_0)).trans hx198_0
                            replace hx198_1 := (HB.out.cell (World.block_lt_of_cell? w _ hx198_1)).trans hx198_1
                            replace hx198_2 := (HB.out.cell (World.block_lt_of_cell? w _ hx198_2)).trans hx198_2
                            replace p198 := eq_true p198
                            replace q198 := eq_true q198
                            go_wp2_with (first | (go_at_call 30; (with_reducible refine (darningref4_Takes.calls k2 ((rd_T35 l0 (ji24)).f1) (wrap64 (2 + (wrap64 (Int.tmod (IntKind.u64.wrap (a3)) 60)))) t199 _ A32.out).mono ?_); rintro e w' ⟨rfl, ⟨nd, rfl⟩⟩; (try first | exact ⟨rfl, _, World.drewN_drewN _ _ _⟩ | exact ⟨rfl, _, Eq.trans (World.drewN_drewN _ _ _) (congrArg (World.drewN _) (Nat.add_assoc _ _ _))⟩); have p200 : 0 ≤ ((ji24) : Int) := of_decide_eq_true (by first | (with_reducible assumption) | assumption); have q200 : (ji24) < (l0.length : Int) := of_decide_eq_true (by first | (with_reducible assumption) | assumption); obtain ⟨ad200, e200, hx200_0, hx200_1, hx200_2⟩ := at_T35 HR0.out (ji24) p200 q200; (try rw [← Nbq27.out] at hx200_2); obtain rfl : ad196 = ad200 := (by injection e200); replace hx200_0 := (HB.out.cell (World.block_lt_of_cell? w _ hx200_0)).trans hx200_0; replace hx200_1 := (HB.out.cell (World.block_lt_of_cell? w _ hx200_1)).trans hx200_1; replace hx200_2 := (HB.out.cell (World.block_lt_of_cell? w _ hx200_2)).trans hx200_2; replace p200 := eq_true p200; replace q200 := eq_true q200))
                            repeat (go_quiet (first | (go_at_call 30; (with_reducible refine (darningref4_Takes.calls k2 ((rd_T35 l0 (ji24)).f1) (wrap64 (2 + (wrap64 (Int.tmod (IntKind.u64.wrap (a3)) 60)))) t199 _ A32.out).mono ?_); rintro e w' ⟨rfl, ⟨nd, rfl⟩⟩; (try first | exact ⟨rfl, _, World.drewN_drewN _ _ _⟩ | exact ⟨rfl, _, Eq.trans (World.drewN_drewN _ _ _) (congrArg (World.drewN _) (Nat.add_assoc _ _ _))⟩); have p200 : 0 ≤ ((ji24) : Int) := of_decide_eq_true (by first | (with_reducible assumption) | assumption); have q200 : (ji24) < (l0.length : Int) := of_decide_eq_true (by first | (with_reducible assumption) | assumption); obtain ⟨ad200, e200, hx200_0, hx200_1, hx200_2⟩ := at_T35 HR0.out (ji24) p200 q200; (try rw [← Nbq27.out] at hx200_2); obtain rfl : ad196 = ad200 := (by injection e200); replace hx200_0 := (HB.out.cell (World.block_lt_of_cell? w _ hx200_0)).trans hx200_0; replace hx200_1 := (HB.out.cell (World.block_lt_of_cell? w _ hx200_1)).trans hx200_1; replace hx200_2 := (HB.out.cell (World.block_lt_of_cell? w _ hx200_2)).trans hx200_2; replace p200 := eq_true p200; replace q200 := eq_true q200)); try go_wp2_with (first | (go_at_call 30; (with_reducible refine (darningref4_Takes.calls k2 ((rd_T35 l0 (ji24)).f1) (wrap64 (2 + (wrap64 (Int.tmod (IntKind.u64.wrap (a3)) 60)))) t199 _ A32.out).mono ?_); rintro e w' ⟨rfl, ⟨nd, rfl⟩⟩; (try first | exact ⟨rfl, _, World.drewN_drewN _ _ _⟩ | exact ⟨rfl, _, Eq.trans (World.drewN_drewN _ _ _) (congrArg (World.drewN _) (Nat.add_assoc _ _ _))⟩); have p200 : 0 ≤ ((ji24) : Int) := of_decide_eq_true (by first | (with_reducible assumption) | assumption); have q200 : (ji24) < (l0.length : Int) := of_decide_eq_true (by first | (with_reducible assumption) | assumption); obtain ⟨ad200, e200, hx200_0, hx200_1, hx200_2⟩ := at_T35 HR0.out (ji24) p200 q200; (try rw [← Nbq27.out] at hx200_2); obtain rfl : ad196 = ad200 := (by injection e200); replace hx200_0 := (HB.out.cell (World.block_lt_of_cell? w _ hx200_0)).trans hx200_0; replace hx200_1 := (HB.out.cell (World.block_lt_of_cell? w _ hx200_1)).trans hx200_1; replace hx200_2 := (HB.out.cell (World.block_lt_of_cell? w _ hx200_2)).trans hx200_2; replace p200 := eq_true p200; replace q200 := eq_true q200)))
                            go_ret
                            exact ⟨by first | rfl | (simp [errW_none, errW_some] <;> rfl) | (simp only [← hji24]; first | rfl | (simp [errW_none, errW_some] <;> rfl)) | (simp [*, errW_none, errW_some] <;> rfl), by repeat (first | (with_reducible first | exact HB.out | apply below_alloc | apply pw_below_drewN | apply below_drew1) | exact HB.out)⟩
                        · rw [if_neg c34] at H
                          have c34b0 : decide (t199 < ((rd_T35 l0 (ji24)).f1)) = false := decide_eq_false c34
                          clear c34
                          by_cases c38 : (t191.length : Int) = t199
                          · rw [if_pos c38] at H
                            have c38b0 : ((t191.length : Int) == t199) = true := beq_iff_eq.mpr c38
                            have c38b1 : ((t191.length : Int) != t199) = false := bne_eq_false_iff_eq.mpr c38
                            clear c38
                            replace H := Option.bind_eq_some_iff.mp H
                            obtain ⟨t202, A390, H⟩ := H
                            replace H : (some t202) = some r := H
                            have A39 := Aside0.mk A390
                            clear A390
                            obtain rfl := Option.some.inj H
                            have p196 : 0 ≤ ((ji24) : Int) := of_decide_eq_true (by first | (with_reducible assumption) | assumption)
                            have q196 : (ji24) < (l0.length : Int) := of_decide_eq_true (by first | (with_reducible assumption) | assumption)
                            obtain ⟨ad196, e196, hx196_0, hx196_1, hx196_2⟩ := at_T35 HR0.out (ji24) p196 q196
                            (try rw [← Nbq27.out] at hx196_2)
                            cases e196
                            replace hx196_0 := (HB.out.cell (World.block_lt_of_cell? w _ hx196_0)).trans hx196_0
                            replace hx196_1 := (HB.out.cell (World.block_lt_of_cell? w _ hx196_1)).trans hx196_1
                            replace hx196_2 := (HB.out.cell (World.block_lt_of_cell? w _ hx196_2)).trans hx196_2
                            replace p196 := eq_true p196
                            replace q196 := eq_true q196
                            have p198 : 0 ≤ ((ji24) : Int) := of_decide_eq_true (by first | (with_reducible assumption) | assumption)
                            have q198 : (ji24) < (l0.length : Int) := of_decide_eq_true (by first | (with_reducible assumption) | assumption)
                            obtain ⟨ad198, e198, hx198_0, hx198_1, hx198_2⟩ := at_T35 HR0.out (ji24) p198 q198
                            (try rw [← Nbq27.out] at hx198_2)
                            obtain rfl : ad196 = ad198 := (by injection e198)
                            replace hx198_0 := (HB.out.cell (World.block_lt_of_cell? w _ hx198_0)).trans hx198_0
                            replace hx198_1 := (HB.out.cell (World.block_lt_of_cell? w _ hx198_1)).trans hx198_1
                            replace hx198_2 := (HB.out.cell (World.block_lt_of_cell? w _ hx198_2)).trans hx198_2
                            replace p198 := eq_true p198
                            replace q198 := eq_true q198
                            go_wp2_with (first | (go_at_call 30; (with_reducible refine (darningref4_Takes.calls k2 ((rd_T35 l0 (ji24)).f1) (wrap64 (2 + (wrap64 (Int.tmod (IntKind.u64.wrap (a3)) 60)))) t199 _ A32.out).mono ?_); rintro e w' ⟨rfl, ⟨nd, rfl⟩⟩; (try first | exact ⟨rfl, _, World.drewN_drewN _ _ _⟩ | exact ⟨rfl, _, Eq.trans (World.drewN_drewN _ _ _) (congrArg (World.drewN _) (Nat.add_assoc _ _ _))⟩); have p200 : 0 ≤ ((ji24) : Int) := of_decide_eq_true (by first | (with_reducible assumption) | assumption); have q200 : (ji24) < (l0.length : Int) := of_decide_eq_true (by first | (with_reducible assumption) | assumption); obtain ⟨ad200, e200, hx200_0, hx200_1, hx200_2⟩ := at_T35 HR0.out (ji24) p200 q200; (try rw [← Nbq27.out] at hx200_2); obtain rfl : ad196 = ad200 := (by injection e200); replace hx200_0 := (HB.out.cell (World.block_lt_of_cell? w _ hx200_0)).trans hx200_0; replace hx200_1 := (HB.out.cell (World.block_lt_of_cell? w _ hx200_1)).trans hx200_1; replace hx200_2 := (HB.out.cell (World.block_lt_of_cell? w _ hx200_2)).trans hx200_2; replace p200 := eq_true p200; replace q200 := eq_true q200) | (go_at_call 22; (with_reducible refine (darninglaw16_awake.calls k2  t202 _ A39.out).mono ?_); rintro e w40 ⟨rfl, hb⟩; have n0_ := Aside0.mk (Kd.R_below (by (with_reducible repeat (first | apply Kd.R_alloc | apply Kd.R_drewN | apply Kd.R_drew)); exact HO_9.out) hb); have n1_ := Aside0.mk (below_step (by repeat (first | (with_reducible first | exact HB.out | apply below_alloc | apply pw_below_drewN | apply below_drew1) | exact HB.out)) hb); clear HO_9; clear HB; have HO_9 := n0_; have HB := n1_; clear n0_ n1_; (try clear hb); (try clear hb2); (try clear hk); (try clear hi)))
                            repeat (go_quiet (first | (go_at_call 30; (with_reducible refine (darningref4_Takes.calls k2 ((rd_T35 l0 (ji24)).f1) (wrap64 (2 + (wrap64 (Int.tmod (IntKind.u64.wrap (a3)) 60)))) t199 _ A32.out).mono ?_); rintro e w' ⟨rfl, ⟨nd, rfl⟩⟩; (try first | exact ⟨rfl, _, World.drewN_drewN _ _ _⟩ | exact ⟨rfl, _, Eq.trans (World.drewN_drewN _ _ _) (congrArg (World.drewN _) (Nat.add_assoc _ _ _))⟩); have p200 : 0 ≤ ((ji24) : Int) := of_decide_eq_true (by first | (with_reducible assumption) | assumption); have q200 : (ji24) < (l0.length : Int) := of_decide_eq_true (by first | (with_reducible assumption) | assumption); obtain ⟨ad200, e200, hx200_0, hx200_1, hx200_2⟩ := at_T35 HR0.out (ji24) p200 q200; (try rw [← Nbq27.out] at hx200_2); obtain rfl : ad196 = ad200 := (by injection e200); replace hx200_0 := (HB.out.cell (World.block_lt_of_cell? w _ hx200_0)).trans hx200_0; replace hx200_1 := (HB.out.cell (World.block_lt_of_cell? w _ hx200_1)).trans hx200_1; replace hx200_2 := (HB.out.cell (World.block_lt_of_cell? w _ hx200_2)).trans hx200_2; replace p200 := eq_true p200; replace q200 := eq_true q200) | (go_at_call 22; (with_reducible refine (darninglaw16_awake.calls k2  t202 _ A39.out).mono ?_); rintro e w40 ⟨rfl, hb⟩; have n0_ := Aside0.mk (Kd.R_below (by (with_reducible repeat (first | apply Kd.R_alloc | apply Kd.R_drewN | apply Kd.R_drew)); exact HO_9.out) hb); have n1_ := Aside0.mk (below_step (by repeat (first | (with_reducible first | exact HB.out | apply below_alloc | apply pw_below_drewN | apply below_drew1) | exact HB.out)) hb); clear HO_9; clear HB; have HO_9 := n0_; have HB := n1_; clear n0_ n1_; (try clear hb); (try clear hb2); (try clear hk); (try clear hi))); try go_wp2_with (first | (go_at_call 30; (with_reducible refine (darningref4_Takes.calls k2 ((rd_T35 l0 (ji24)).f1) (wrap64 (2 + (wrap64 (Int.tmod (IntKind.u64.wrap (a3)) 60)))) t199 _ A32.out).mono ?_); rintro e w' ⟨rfl, ⟨nd, rfl⟩⟩; (try first | exact ⟨rfl, _, World.drewN_drewN _ _ _⟩ | exact ⟨rfl, _, Eq.trans (World.drewN_drewN _ _ _) (congrArg (World.drewN _) (Nat.add_assoc _ _ _))⟩); have p200 : 0 ≤ ((ji24) : Int) := of_decide_eq_true (by first | (with_reducible assumption) | assumption); have q200 : (ji24) < (l0.length : Int) := of_decide_eq_true (by first | (with_reducible assumption) | assumption); obtain ⟨ad200, e200, hx200_0, hx200_1, hx200_2⟩ := at_T35 HR0.out (ji24) p200 q200; (try rw [← Nbq27.out] at hx200_2); obtain rfl : ad196 = ad200 := (by injection e200); replace hx200_0 := (HB.out.cell (World.block_lt_of_cell? w _ hx200_0)).trans hx200_0; replace hx200_1 := (HB.out.cell (World.block_lt_of_cell? w _ hx200_1)).trans hx200_1; replace hx200_2 := (HB.out.cell (World.block_lt_of_cell? w _ hx200_2)).trans hx200_2; replace p200 := eq_true p200; replace q200 := eq_true q200) | (go_at_call 22; (with_reducible refine (darninglaw16_awake.calls k2  t202 _ A39.out).mono ?_); rintro e w40 ⟨rfl, hb⟩; have n0_ := Aside0.mk (Kd.R_below (by (with_reducible repeat (first | apply Kd.R_alloc | apply Kd.R_drewN | apply Kd.R_drew)); exact HO_9.out) hb); have n1_ := Aside0.mk (below_step (by repeat (first | (with_reducible first | exact HB.out | apply below_alloc | apply pw_below_drewN | apply below_drew1) | exact HB.out)) hb); clear HO_9; clear HB; have HO_9 := n0_; have HB := n1_; clear n0_ n1_; (try clear hb); (try clear hb2); (try clear hk); (try clear hi))))
                            go_ret
                            exact ⟨by first | rfl | (simp [errW_none, errW_some] <;> rfl) | (simp only [← hji24]; first | rfl | (simp [errW_none, errW_some] <;> rfl)) | (simp [*, errW_none, errW_some] <;> rfl), by repeat (first | (with_reducible first | exact HB.out | apply below_alloc | apply pw_below_drewN | apply below_drew1) | exact HB.out)⟩
                          · rw [if_neg c38] at H
                            have c38b0 : ((t191.length : Int) == t199) = false := beq_eq_false_iff_ne.mpr c38
                            have c38b1 : ((t191.length : Int) != t199) = true := bne_iff_ne.mpr c38
                            obtain rfl := Option.some.inj H
                            have p196 : 0 ≤ ((ji24) : Int) := of_decide_eq_true (by first | (with_reducible assumption) | assumption)
                            have q196 : (ji24) < (l0.length : Int) := of_decide_eq_true (by first | (with_reducible assumption) | assumption)
                            obtain ⟨ad196, e196, hx196_0, hx196_1, hx196_2⟩ := at_T35 HR0.out (ji24) p196 q196
                            (try rw [← Nbq27.out] at hx196_2)
                            cases e196
                            replace hx196_0 := (HB.out.cell (World.block_lt_of_cell? w _ hx196_0)).trans hx196_0
                            replace hx196_1 := (HB.out.cell (World.block_lt_of_cell? w _ hx196_1)).trans hx196_1
                            replace hx196_2 := (HB.out.cell (World.block_lt_of_cell? w _ hx196_2)).trans hx196_2
                            replace p196 := eq_true p196
                            replace q196 := eq_true q196
                            have p198 : 0 ≤ ((ji24) : Int) := of_decide_eq_true (by first | (with_reducible assumption) | assumption)
                            have q198 : (ji24) < (l0.length : Int) := of_decide_eq_true (by first | (with_reducible assumption) | assumption)
                            obtain ⟨ad198, e198, hx198_0, hx198_1, hx198_2⟩ := at_T35 HR0.out (ji24) p198 q198
                            (try rw [← Nbq27.out] at hx198_2)
                            obtain rfl : ad196 = ad198 := (by injection e198)
                            replace hx198_0 := (HB.out.cell (World.block_lt_of_cell? w _ hx198_0)).trans hx198_0
                            replace hx198_1 := (HB.out.cell (World.block_lt_of_cell? w _ hx198_1)).trans hx198_1
                            replace hx198_2 := (HB.out.cell (World.block_lt_of_cell? w _ hx198_2)).trans hx198_2
                            replace p198 := eq_true p198
                            replace q198 := eq_true q198
                            go_wp2_with (first | (go_at_call 30; (with_reducible refine (darningref4_Takes.calls k2 ((rd_T35 l0 (ji24)).f1) (wrap64 (2 + (wrap64 (Int.tmod (IntKind.u64.wrap (a3)) 60)))) t199 _ A32.out).mono ?_); rintro e w' ⟨rfl, ⟨nd, rfl⟩⟩; (try first | exact ⟨rfl, _, World.drewN_drewN _ _ _⟩ | exact ⟨rfl, _, Eq.trans (World.drewN_drewN _ _ _) (congrArg (World.drewN _) (Nat.add_assoc _ _ _))⟩); have p200 : 0 ≤ ((ji24) : Int) := of_decide_eq_true (by first | (with_reducible assumption) | assumption); have q200 : (ji24) < (l0.length : Int) := of_decide_eq_true (by first | (with_reducible assumption) | assumption); obtain ⟨ad200, e200, hx200_0, hx200_1, hx200_2⟩ := at_T35 HR0.out (ji24) p200 q200; (try rw [← Nbq27.out] at hx200_2); obtain rfl : ad196 = ad200 := (by injection e200); replace hx200_0 := (HB.out.cell (World.block_lt_of_cell? w _ hx200_0)).trans hx200_0; replace hx200_1 := (HB.out.cell (World.block_lt_of_cell? w _ hx200_1)).trans hx200_1; replace hx200_2 := (HB.out.cell (World.block_lt_of_cell? w _ hx200_2)).trans hx200_2; replace p200 := eq_true p200; replace q200 := eq_true q200))
                            repeat (go_quiet (first | (go_at_call 30; (with_reducible refine (darningref4_Takes.calls k2 ((rd_T35 l0 (ji24)).f1) (wrap64 (2 + (wrap64 (Int.tmod (IntKind.u64.wrap (a3)) 60)))) t199 _ A32.out).mono ?_); rintro e w' ⟨rfl, ⟨nd, rfl⟩⟩; (try first | exact ⟨rfl, _, World.drewN_drewN _ _ _⟩ | exact ⟨rfl, _, Eq.trans (World.drewN_drewN _ _ _) (congrArg (World.drewN _) (Nat.add_assoc _ _ _))⟩); have p200 : 0 ≤ ((ji24) : Int) := of_decide_eq_true (by first | (with_reducible assumption) | assumption); have q200 : (ji24) < (l0.length : Int) := of_decide_eq_true (by first | (with_reducible assumption) | assumption); obtain ⟨ad200, e200, hx200_0, hx200_1, hx200_2⟩ := at_T35 HR0.out (ji24) p200 q200; (try rw [← Nbq27.out] at hx200_2); obtain rfl : ad196 = ad200 := (by injection e200); replace hx200_0 := (HB.out.cell (World.block_lt_of_cell? w _ hx200_0)).trans hx200_0; replace hx200_1 := (HB.out.cell (World.block_lt_of_cell? w _ hx200_1)).trans hx200_1; replace hx200_2 := (HB.out.cell (World.block_lt_of_cell? w _ hx200_2)).trans hx200_2; replace p200 := eq_true p200; replace q200 := eq_true q200)); try go_wp2_with (first | (go_at_call 30; (with_reducible refine (darningref4_Takes.calls k2 ((rd_T35 l0 (ji24)).f1) (wrap64 (2 + (wrap64 (Int.tmod (IntKind.u64.wrap (a3)) 60)))) t199 _ A32.out).mono ?_); rintro e w' ⟨rfl, ⟨nd, rfl⟩⟩; (try first | exact ⟨rfl, _, World.drewN_drewN _ _ _⟩ | exact ⟨rfl, _, Eq.trans (World.drewN_drewN _ _ _) (congrArg (World.drewN _) (Nat.add_assoc _ _ _))⟩); have p200 : 0 ≤ ((ji24) : Int) := of_decide_eq_true (by first | (with_reducible assumption) | assumption); have q200 : (ji24) < (l0.length : Int) := of_decide_eq_true (by first | (with_reducible assumption) | assumption); obtain ⟨ad200, e200, hx200_0, hx200_1, hx200_2⟩ := at_T35 HR0.out (ji24) p200 q200; (try rw [← Nbq27.out] at hx200_2); obtain rfl : ad196 = ad200 := (by injection e200); replace hx200_0 := (HB.out.cell (World.block_lt_of_cell? w _ hx200_0)).trans hx200_0; replace hx200_1 := (HB.out.cell (World.block_lt_of_cell? w _ hx200_1)).trans hx200_1; replace hx200_2 := (HB.out.cell (World.block_lt_of_cell? w _ hx200_2)).trans hx200_2; replace p200 := eq_true p200; replace q200 := eq_true q200)))
                            go_ret
                            exact ⟨by first | rfl | (simp [errW_none, errW_some] <;> rfl) | (simp only [← hji24]; first | rfl | (simp [errW_none, errW_some] <;> rfl)) | (simp [*, errW_none, errW_some] <;> rfl), by repeat (first | (with_reducible first | exact HB.out | apply below_alloc | apply pw_below_drewN | apply below_drew1) | exact HB.out)⟩
                      · rw [if_neg c33] at H
                        have c33b0 : decide (0 < t199) = false := decide_eq_false c33
                        clear c33
                        by_cases c41 : (t191.length : Int) = t199
                        · rw [if_pos c41] at H
                          have c41b0 : ((t191.length : Int) == t199) = true := beq_iff_eq.mpr c41
                          have c41b1 : ((t191.length : Int) != t199) = false := bne_eq_false_iff_eq.mpr c41
                          clear c41
                          replace H := Option.bind_eq_some_iff.mp H
                          obtain ⟨t203, A420, H⟩ := H
                          replace H : (some t203) = some r := H
                          have A42 := Aside0.mk A420
                          clear A420
                          obtain rfl := Option.some.inj H
                          have p196 : 0 ≤ ((ji24) : Int) := of_decide_eq_true (by first | (with_reducible assumption) | assumption)
                          have q196 : (ji24) < (l0.length : Int) := of_decide_eq_true (by first | (with_reducible assumption) | assumption)
                          obtain ⟨ad196, e196, hx196_0, hx196_1, hx196_2⟩ := at_T35 HR0.out (ji24) p196 q196
                          (try rw [← Nbq27.out] at hx196_2)
                          cases e196
                          replace hx196_0 := (HB.out.cell (World.block_lt_of_cell? w _ hx196_0)).trans hx196_0
                          replace hx196_1 := (HB.out.cell (World.block_lt_of_cell? w _ hx196_1)).trans hx196_1
                          replace hx196_2 := (HB.out.cell (World.block_lt_of_cell? w _ hx196_2)).trans hx196_2
                          replace p196 := eq_true p196
                          replace q196 := eq_true q196
                          have p198 : 0 ≤ ((ji24) : Int) := of_decide_eq_true (by first | (with_reducible assumption) | assumption)
                          have q198 : (ji24) < (l0.length : Int) := of_decide_eq_true (by first | (with_reducible assumption) | assumption)
                          obtain ⟨ad198, e198, hx198_0, hx198_1, hx198_2⟩ := at_T35 HR0.out (ji24) p198 q198
                          (try rw [← Nbq27.out] at hx198_2)
                          obtain rfl : ad196 = ad198 := (by injection e198)
                          replace hx198_0 := (HB.out.cell (World.block_lt_of_cell? w _ hx198_0)).trans hx198_0
                          replace hx198_1 := (HB.out.cell (World.block_lt_of_cell? w _ hx198_1)).trans hx198_1
                          replace hx198_2 := (HB.out.cell (World.block_lt_of_cell? w _ hx198_2)).trans hx198_2
                          replace p198 := eq_true p198
                          replace q198 := eq_true q198
                          go_wp2_with (first | (go_at_call 30; (with_reducible refine (darningref4_Takes.calls k2 ((rd_T35 l0 (ji24)).f1) (wrap64 (2 + (wrap64 (Int.tmod (IntKind.u64.wrap (a3)) 60)))) t199 _ A32.out).mono ?_); rintro e w' ⟨rfl, ⟨nd, rfl⟩⟩; (try first | exact ⟨rfl, _, World.drewN_drewN _ _ _⟩ | exact ⟨rfl, _, Eq.trans (World.drewN_drewN _ _ _) (congrArg (World.drewN _) (Nat.add_assoc _ _ _))⟩)) | (go_at_call 22; (with_reducible refine (darninglaw16_awake.calls k2  t203 _ A42.out).mono ?_); rintro e w43 ⟨rfl, hb⟩; have n0_ := Aside0.mk (Kd.R_below (by (with_reducible repeat (first | apply Kd.R_alloc | apply Kd.R_drewN | apply Kd.R_drew)); exact HO_9.out) hb); have n1_ := Aside0.mk (below_step (by repeat (first | (with_reducible first | exact HB.out | apply below_alloc | apply pw_below_drewN | apply below_drew1) | exact HB.out)) hb); clear HO_9; clear HB; have HO_9 := n0_; have HB := n1_; clear n0_ n1_; (try clear hb); (try clear hb2); (try clear hk); (try clear hi)))
                          repeat (go_quiet (first | (go_at_call 30; (with_reducible refine (darningref4_Takes.calls k2 ((rd_T35 l0 (ji24)).f1) (wrap64 (2 + (wrap64 (Int.tmod (IntKind.u64.wrap (a3)) 60)))) t199 _ A32.out).mono ?_); rintro e w' ⟨rfl, ⟨nd, rfl⟩⟩; (try first | exact ⟨rfl, _, World.drewN_drewN _ _ _⟩ | exact ⟨rfl, _, Eq.trans (World.drewN_drewN _ _ _) (congrArg (World.drewN _) (Nat.add_assoc _ _ _))⟩)) | (go_at_call 22; (with_reducible refine (darninglaw16_awake.calls k2  t203 _ A42.out).mono ?_); rintro e w43 ⟨rfl, hb⟩; have n0_ := Aside0.mk (Kd.R_below (by (with_reducible repeat (first | apply Kd.R_alloc | apply Kd.R_drewN | apply Kd.R_drew)); exact HO_9.out) hb); have n1_ := Aside0.mk (below_step (by repeat (first | (with_reducible first | exact HB.out | apply below_alloc | apply pw_below_drewN | apply below_drew1) | exact HB.out)) hb); clear HO_9; clear HB; have HO_9 := n0_; have HB := n1_; clear n0_ n1_; (try clear hb); (try clear hb2); (try clear hk); (try clear hi))); try go_wp2_with (first | (go_at_call 30; (with_reducible refine (darningref4_Takes.calls k2 ((rd_T35 l0 (ji24)).f1) (wrap64 (2 + (wrap64 (Int.tmod (IntKind.u64.wrap (a3)) 60)))) t199 _ A32.out).mono ?_); rintro e w' ⟨rfl, ⟨nd, rfl⟩⟩; (try first | exact ⟨rfl, _, World.drewN_drewN _ _ _⟩ | exact ⟨rfl, _, Eq.trans (World.drewN_drewN _ _ _) (congrArg (World.drewN _) (Nat.add_assoc _ _ _))⟩)) | (go_at_call 22; (with_reducible refine (darninglaw16_awake.calls k2  t203 _ A42.out).mono ?_); rintro e w43 ⟨rfl, hb⟩; have n0_ := Aside0.mk (Kd.R_below (by (with_reducible repeat (first | apply Kd.R_alloc | apply Kd.R_drewN | apply Kd.R_drew)); exact HO_9.out) hb); have n1_ := Aside0.mk (below_step (by repeat (first | (with_reducible first | exact HB.out | apply below_alloc | apply pw_below_drewN | apply below_drew1) | exact HB.out)) hb); clear HO_9; clear HB; have HO_9 := n0_; have HB := n1_; clear n0_ n1_; (try clear hb); (try clear hb2); (try clear hk); (try clear hi))))
                          go_ret
                          exact ⟨by first | rfl | (simp [errW_none, errW_some] <;> rfl) | (simp only [← hji24]; first | rfl | (simp [errW_none, errW_some] <;> rfl)) | (simp [*, errW_none, errW_some] <;> rfl), by repeat (first | (with_reducible first | exact HB.out | apply below_alloc | apply pw_below_drewN | apply below_drew1) | exact HB.out)⟩
                        · rw [if_neg c41] at H
                          have c41b0 : ((t191.length : Int) == t199) = false := beq_eq_false_iff_ne.mpr c41
                          have c41b1 : ((t191.length : Int) != t199) = true := bne_iff_ne.mpr c41
                          obtain rfl := Option.some.inj H
                          have p196 : 0 ≤ ((ji24) : Int) := of_decide_eq_true (by first | (with_reducible assumption) | assumption)
                          have q196 : (ji24) < (l0.length : Int) := of_decide_eq_true (by first | (with_reducible assumption) | assumption)
                          obtain ⟨ad196, e196, hx196_0, hx196_1, hx196_2⟩ := at_T35 HR0.out (ji24) p196 q196
                          (try rw [← Nbq27.out] at hx196_2)
                          cases e196
                          replace hx196_0 := (HB.out.cell (World.block_lt_of_cell? w _ hx196_0)).trans hx196_0
                          replace hx196_1 := (HB.out.cell (World.block_lt_of_cell? w _ hx196_1)).trans hx196_1
                          replace hx196_2 := (HB.out.cell (World.block_lt_of_cell? w _ hx196_2)).trans hx196_2
                          replace p196 := eq_true p196
                          replace q196 := eq_true q196
                          have p198 : 0 ≤ ((ji24) : Int) := of_decide_eq_true (by first | (with_reducible assumption) | assumption)
                          have q198 : (ji24) < (l0.length : Int) := of_decide_eq_true (by first | (with_reducible assumption) | assumption)
                          obtain ⟨ad198, e198, hx198_0, hx198_1, hx198_2⟩ := at_T35 HR0.out (ji24) p198 q198
                          (try rw [← Nbq27.out] at hx198_2)
                          obtain rfl : ad196 = ad198 := (by injection e198)
                          replace hx198_0 := (HB.out.cell (World.block_lt_of_cell? w _ hx198_0)).trans hx198_0
                          replace hx198_1 := (HB.out.cell (World.block_lt_of_cell? w _ hx198_1)).trans hx198_1
                          replace hx198_2 := (HB.out.cell (World.block_lt_of_cell? w _ hx198_2)).trans hx198_2
                          replace p198 := eq_true p198
                          replace q198 := eq_true q198
                          go_wp2_with (first | (go_at_call 30; (with_reducible refine (darningref4_Takes.calls k2 ((rd_T35 l0 (ji24)).f1) (wrap64 (2 + (wrap64 (Int.tmod (IntKind.u64.wrap (a3)) 60)))) t199 _ A32.out).mono ?_); rintro e w' ⟨rfl, ⟨nd, rfl⟩⟩; (try first | exact ⟨rfl, _, World.drewN_drewN _ _ _⟩ | exact ⟨rfl, _, Eq.trans (World.drewN_drewN _ _ _) (congrArg (World.drewN _) (Nat.add_assoc _ _ _))⟩)))
                          repeat (go_quiet (first | (go_at_call 30; (with_reducible refine (darningref4_Takes.calls k2 ((rd_T35 l0 (ji24)).f1) (wrap64 (2 + (wrap64 (Int.tmod (IntKind.u64.wrap (a3)) 60)))) t199 _ A32.out).mono ?_); rintro e w' ⟨rfl, ⟨nd, rfl⟩⟩; (try first | exact ⟨rfl, _, World.drewN_drewN _ _ _⟩ | exact ⟨rfl, _, Eq.trans (World.drewN_drewN _ _ _) (congrArg (World.drewN _) (Nat.add_assoc _ _ _))⟩))); try go_wp2_with (first | (go_at_call 30; (with_reducible refine (darningref4_Takes.calls k2 ((rd_T35 l0 (ji24)).f1) (wrap64 (2 + (wrap64 (Int.tmod (IntKind.u64.wrap (a3)) 60)))) t199 _ A32.out).mono ?_); rintro e w' ⟨rfl, ⟨nd, rfl⟩⟩; (try first | exact ⟨rfl, _, World.drewN_drewN _ _ _⟩ | exact ⟨rfl, _, Eq.trans (World.drewN_drewN _ _ _) (congrArg (World.drewN _) (Nat.add_assoc _ _ _))⟩))))
                          go_ret
                          exact ⟨by first | rfl | (simp [errW_none, errW_some] <;> rfl) | (simp only [← hji24]; first | rfl | (simp [errW_none, errW_some] <;> rfl)) | (simp [*, errW_none, errW_some] <;> rfl), by repeat (first | (with_reducible first | exact HB.out | apply below_alloc | apply pw_below_drewN | apply below_drew1) | exact HB.out)⟩
                  · rw [if_neg c26] at H
                    exact absurd H (by simp)
                · rw [if_neg c25] at H
                  exact absurd H (by simp)
/-- What a value of type 35 that is read fits. -/
def wfT35 (x : S35) : Prop := (Lit.int .i64 x.f0).wf = true ∧ (Lit.int .i64 x.f1).wf = true ∧ True

/-- THE ONE PURE STATEMENT of darninglaw16_CarveRising. -/
def darninglaw16_CarveRising.Pure : Prop := ∀ (l0 : List (S35)) (a1 : Int) (a2 : Int) (a3 : Int), l0.length ≤ maxLen → l0.length * 24 ≤ 140737488351232 → (∀ x ∈ l0, wfT35 x) → (Lit.int .i64 a1).wf = true → (Lit.int .i64 a2).wf = true → (Lit.int .i64 a3).wf = true → ∃ k, darninglaw16_CarveRising.f k l0 a1 a2 a3 = some true
theorem darninglaw16_CarveRising.walk (P : darninglaw16_CarveRising.Pure) (A0 : Option Addr) (c0 : Nat) (l0 : List (S35)) (a1 : Int) (a2 : Int) (a3 : Int) (w : World) (hr0 : Kd.C k35 w A0 l0.length l0) (hc0 : l0.length ≤ c0) (hm0 : l0.length ≤ maxLen) (y0 : l0.length * 24 ≤ 140737488351232) (hw0 : (∀ x ∈ l0, wfT35 x)) (w1 : (Lit.int .i64 a1).wf = true) (w2 : (Lit.int .i64 a2).wf = true) (w3 : (Lit.int .i64 a3).wf = true) :
    Calls Try.prog 8 #[.slice A0 l0.length c0, .int .i64 a1, .int .i64 a2, .int .i64 a3] w fun e w' => e = .returned (.bool true) ∧ Below w.heap.size w w' := by
  obtain ⟨k, h⟩ := P l0 a1 a2 a3 hm0 y0 hw0 w1 w2 w3
  refine (darninglaw16_CarveRising.calls k A0 c0 l0 a1 a2 a3 true w hr0 hc0 h).mono ?_
  rintro e w' ⟨rfl, hd⟩
  exact ⟨rfl, hd⟩

end Go.Proofs.Ytglekonhdjploaa.XCarveRising
