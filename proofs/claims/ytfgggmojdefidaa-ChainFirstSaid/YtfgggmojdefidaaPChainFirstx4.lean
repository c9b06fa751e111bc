-- PRINTED BY print.sh 35421559b90ae4d0a3588c463048766b98c2df88dd9212a6774a882060cdf62d: not written by this session
import Derived.Test.YtfgggmojdefidaaPChainFirstx0
import Derived.Test.YtfgggmojdefidaaPChainFirstx1
import Derived.Test.YtfgggmojdefidaaPChainFirstx2
import Derived.Test.YtfgggmojdefidaaPChainFirstx3
namespace Go.Proofs.Ytfgggmojdefidaa.PChainFirst
open Go.RowKit Go.Proofs.YtfgggmojdefidaaW.PrintWords Go.Proofs.YtfgggmojdefidaaW.PrintLast Go.Proofs.YtfgggmojdefidaaW.PrintMore
attribute [local go_sem] max2_int min2_int max_two min_two max_three min_three max_four min_four   -- for this text's walks alone
set_option linter.unusedVariables false
set_option linter.unusedSimpArgs false

attribute [local go_sem high] eqA51
/-! ### darninglaw14_ChainFirst: function 11 -/
def darninglaw14_ChainFirst.l0 : Nat → Int → List (S51) → Bool → List Int → Int → Int → Option (Bool)
  | 0, _, _, _, _, _, _ => none
  | k + 1, x0, x4, x5, x21, x22, x23 => if x23 < x22 then (if 0 ≤ x23 then (if x23 < (x21.length : Int) then (if x23 > 0 then (if (rd x21 x23) = 0 then (darninglaw14_ChainFirst.l0 k x0 x4 x5 x21 x22 (wrap64 (x23 + 1))) else (some false)) else (darninglaw14_ChainFirst.l0 k x0 x4 x5 x21 x22 (wrap64 (x23 + 1)))) else (none)) else (none)) else (if x5 = true then (if (x4.length : Int) = 1 then (if 0 < (x4.length : Int) then (if (((rd_T51 x4 0).f0) == 0 && (((rd_T51 x4 0).f1) == x0 && (!((rd_T51 x4 0).f2)))) = true then ((chain_Most.f k x4).bind fun t158 => (if t158 = x0 then ((chain_Free.f k x4).bind fun t159 => (if t159 = x0 then ((chain_First.f (wrap64 (x0 + 1))).bind fun t160 => (if (t160.length : Int) = 0 then ((chain_First.f 0).bind fun t163 => (if (t163.length : Int) = 0 then ((darninglaw14_awake.f k).bind fun t166 => (some t166)) else (some false))) else (some false))) else (some false))) else (some false))) else (some false)) else (none)) else (some false)) else (some false))
def darninglaw14_ChainFirst.f (k : Nat) (a0 : Int) : Option (Bool) := (chain_First.f (wrap64 (8 * (wrap64 (1 + (wrap64 (Int.tmod (IntKind.u64.wrap (a0)) 64))))))).bind fun t149 => ((chain_Blocks.f k t149).bind fun bt152 => (darninglaw14_ChainFirst.l0 k (wrap64 (8 * (wrap64 (1 + (wrap64 (Int.tmod (IntKind.u64.wrap (a0)) 64)))))) bt152.1 bt152.2 t149 (t149.length : Int) 0))
theorem darninglaw14_ChainFirst.mono_l : ∀ k, (∀ y0 y1 y2 y3 y4 y5, LeO (darninglaw14_ChainFirst.l0 k y0 y1 y2 y3 y4 y5) (darninglaw14_ChainFirst.l0 (k + 1) y0 y1 y2 y3 y4 y5))
  | 0 => fun _ _ _ _ _ _ r h => by simp [darninglaw14_ChainFirst.l0] at h
  | k + 1 => by
    have ih0 := darninglaw14_ChainFirst.mono_l k
    · intro y0 y1 y2 y3 y4 y5
      unfold darninglaw14_ChainFirst.l0
      repeat' first
      | (with_reducible exact ih0 _ _ _ _ _ _)
      | (with_reducible exact chain_Blocks.mono _ _)
      | (with_reducible exact chain_Free.mono _ _)
      | (with_reducible exact chain_Most.mono _ _)
      | (with_reducible exact darninglaw14_awake.mono _)
      | (with_reducible exact LeO.refl _)
      | (with_reducible exact LeO.none _)
      | (with_reducible refine LeO.ite ?_ ?_)
      | (with_reducible refine LeO.bind ?_ (fun _ => ?_))
      | exact ih0 _ _ _ _ _ _
      | exact chain_Blocks.mono _ _
      | exact chain_Free.mono _ _
      | exact chain_Most.mono _ _
      | exact darninglaw14_awake.mono _
      | exact LeO.none _
      | refine LeO.ite ?_ ?_
      | refine LeO.bind ?_ (fun _ => ?_)
theorem darninglaw14_ChainFirst.mono : ∀ a0 k, LeO (darninglaw14_ChainFirst.f k a0) (darninglaw14_ChainFirst.f (k + 1) a0) := by
  intro a0 k
  have ih0 := darninglaw14_ChainFirst.mono_l k
  unfold darninglaw14_ChainFirst.f
  repeat' first
      | (with_reducible exact ih0 _ _ _ _ _ _)
      | (with_reducible exact chain_Blocks.mono _ _)
      | (with_reducible exact chain_Free.mono _ _)
      | (with_reducible exact chain_Most.mono _ _)
      | (with_reducible exact darninglaw14_awake.mono _)
      | (with_reducible exact LeO.refl _)
      | (with_reducible exact LeO.none _)
      | (with_reducible refine LeO.ite ?_ ?_)
      | (with_reducible refine LeO.bind ?_ (fun _ => ?_))
      | exact ih0 _ _ _ _ _ _
      | exact chain_Blocks.mono _ _
      | exact chain_Free.mono _ _
      | exact chain_Most.mono _ _
      | exact darninglaw14_awake.mono _
      | exact LeO.none _
      | refine LeO.ite ?_ ?_
      | refine LeO.bind ?_ (fun _ => ?_)
set_option maxHeartbeats 8000000 in
set_option maxRecDepth 100000 in
theorem darninglaw14_ChainFirst.calls (k : Nat) (a0 : Int) (r : Bool) (w : World) (h : darninglaw14_ChainFirst.f k a0 = some r) :
    Calls Try.prog 11 #[.int .i64 a0] w fun e w' => e = .returned (.bool r) ∧ Below w.heap.size w w' := by
  have hu51 := Try.underlying51
  have HB := Aside0.mk (Below.refl w.heap.size w)
  have H : ((chain_First.f (wrap64 (8 * (wrap64 (1 + (wrap64 (Int.tmod (IntKind.u64.wrap (a0)) 64))))))).bind fun t149 => ((chain_Blocks.f k t149).bind fun bt152 => (darninglaw14_ChainFirst.l0 k (wrap64 (8 * (wrap64 (1 + (wrap64 (Int.tmod (IntKind.u64.wrap (a0)) 64)))))) bt152.1 bt152.2 t149 (t149.length : Int) 0))) = some r := h
  clear h
  replace H := Option.bind_eq_some_iff.mp H
  obtain ⟨t149, A20, H⟩ := H
  replace H : ((chain_Blocks.f k t149).bind fun bt152 => (darninglaw14_ChainFirst.l0 k (wrap64 (8 * (wrap64 (1 + (wrap64 (Int.tmod (IntKind.u64.wrap (a0)) 64)))))) bt152.1 bt152.2 t149 (t149.length : Int) 0)) = some r := H
  have A2 := Aside0.mk A20
  clear A20
  replace H := Option.bind_eq_some_iff.mp H
  obtain ⟨⟨t152, t153⟩, A30, H⟩ := H
  replace H : (darninglaw14_ChainFirst.l0 k (wrap64 (8 * (wrap64 (1 + (wrap64 (Int.tmod (IntKind.u64.wrap (a0)) 64)))))) t152 t153 t149 (t149.length : Int) 0) = some r := H
  have A3 := Aside0.mk A30
  clear A30
  have H' := Aside0.mk H
  clear H
  go_enter Try.func11, Try.ntmps11
  go_wp2_with (first | ((with_reducible refine gate_callee (f := 27) rfl ?_); refine goesL_ (some 15) rfl rfl Try.func27 (by kernel_rfl) rfl #[.int .i64 (wrap64 (8 * (wrap64 (1 + (wrap64 (Int.tmod (IntKind.u64.wrap (a0)) 64))))))] rfl (by (try simp only [List.map_toArray, List.map_cons, List.map_nil]); first | done | rfl | (simp only [List.length_drop, List.length_take]; rfl)) ?_; (with_reducible refine (chain_First.calls (wrap64 (8 * (wrap64 (1 + (wrap64 (Int.tmod (IntKind.u64.wrap (a0)) 64)))))) t149 _ A2.out).mono ?_); rintro e w4 ⟨v150, rfl, ho0, hb⟩; refine ⟨_, rfl, ?_⟩; have n0_ := Aside0.mk (Kd.R_lower ho0 (below_size (by repeat (first | (with_reducible first | exact HB.out | apply below_alloc | apply pw_below_drewN | apply below_drew1) | exact HB.out)))); have n1_ := Aside0.mk (below_step (by repeat (first | (with_reducible first | exact HB.out | apply below_alloc | apply pw_below_drewN | apply below_drew1) | exact HB.out)) hb); clear HB; have HO151 := n0_; have HB := n1_; clear n0_ n1_; (try clear hb); (try clear hb2); (try clear hk); (try clear hi); (try clear ho0); obtain ⟨Ao5, co5, eo5⟩ := Kd.R_slice HO151.out; subst eo5) | ((with_reducible refine gate_callee (f := 23) rfl ?_); refine goesL_ (some 18) rfl rfl Try.func23 (by kernel_rfl) rfl #[.slice Ao5 t149.length co5] rfl (by (try simp only [List.map_toArray, List.map_cons, List.map_nil]); first | done | rfl | (simp only [List.length_drop, List.length_take]; rfl)) ?_; (with_reducible refine (chain_Blocks.calls k _ _ t149 t152 t153 _ ?side1 ?side2 A3.out).mono ?_); (case side1 => repeat (first | exact (Kd.R_reads' HO151.out).2.2 | (with_reducible refine Kd.C_alloc ?_ _) | (with_reducible refine Kd.C_drewN ?_ _) | (with_reducible refine Kd.C_drew ?_))); (case side2 => exact (Kd.R_reads' HO151.out).2.1); rintro e w6 ⟨v154, rfl, ho0, hb⟩; refine ⟨_, rfl, ?_⟩; have n0_ := Aside0.mk (Kd.R_below (by (with_reducible repeat (first | apply Kd.R_alloc | apply Kd.R_drewN | apply Kd.R_drew)); exact HO151.out) hb); have n1_ := Aside0.mk (Kd.R_lower ho0 (below_size (by repeat (first | (with_reducible first | exact HB.out | apply below_alloc | apply pw_below_drewN | apply below_drew1) | exact HB.out)))); have n2_ := Aside0.mk (below_step (by repeat (first | (with_reducible first | exact HB.out | apply below_alloc | apply pw_below_drewN | apply below_drew1) | exact HB.out)) hb); clear HO151; clear HB; have HO151 := n0_; have HO155 := n1_; have HB := n2_; clear n0_ n1_ n2_; (try clear hb); (try clear hb2); (try clear hk); (try clear hi); (try clear ho0)))
  go_loopg [23] k (fun kq v23 w' => ∃ (x23_1 : Int), v23 = .int .i64 x23_1 ∧ Aside0 (darninglaw14_ChainFirst.l0 kq (wrap64 (8 * (wrap64 (1 + (wrap64 (Int.tmod (IntKind.u64.wrap (a0)) 64)))))) t152 t153 t149 (t149.length : Int) x23_1 = some r) ∧ Aside0 (kq ≤ k) ∧ Aside0 (Kd.R k51 51 w' w.heap.size (fun _ => True) v154 t152) ∧ Aside0 (Kd.R (Kd.int .u64) 34 w' w.heap.size (fun _ => True) (.slice Ao5 t149.length co5) t149) ∧ Aside0 (Below w.heap.size w w'))
  case atStart => exact ⟨(0), (by first | rfl | (simp; done) | (simp [*]; done)), H', ⟨Nat.le_refl _⟩, ⟨by (with_reducible repeat (first | apply Kd.R_alloc | apply Kd.R_drewN | apply Kd.R_drew)); exact HO155.out⟩, ⟨by (with_reducible repeat (first | apply Kd.R_alloc | apply Kd.R_drewN | apply Kd.R_drew)); exact HO151.out⟩, ⟨by repeat (first | (with_reducible first | exact HB.out | apply below_alloc | apply pw_below_drewN | apply below_drew1) | exact HB.out)⟩⟩
  case round =>
    clear H'
    try clear c1
    try clear c2
    try clear p2
    try clear p6
    obtain ⟨x23_1, rfl, HA, HK1, HO_4, HO_21, HB⟩ := hrel
    cases gk with
    | zero => exact absurd HA.out (by simp [darninglaw14_ChainFirst.l0])
    | succ k1 =>
      have H := HA.out
      clear HA
      simp only [darninglaw14_ChainFirst.l0] at H
      by_cases c7 : x23_1 < (t149.length : Int)
      · rw [if_pos c7] at H
        have c7b0 : decide (x23_1 < (t149.length : Int)) = true := decide_eq_true c7
        clear c7
        by_cases c8 : 0 ≤ x23_1
        · rw [if_pos c8] at H
          have c8b0 : decide (0 ≤ x23_1) = true := decide_eq_true c8
          clear c8
          by_cases c9 : x23_1 < (t149.length : Int)
          · rw [if_pos c9] at H
            have c9b0 : decide (x23_1 < (t149.length : Int)) = true := decide_eq_true c9
            clear c9
            by_cases c10 : x23_1 > 0
            · rw [if_pos c10] at H
              have c10b0 : decide (0 < x23_1) = true := decide_eq_true c10
              clear c10
              by_cases c11 : (rd t149 x23_1) = 0
              · rw [if_pos c11] at H
                have c11b0 : ((rd t149 x23_1) == 0) = true := beq_iff_eq.mpr c11
                have c11b1 : ((rd t149 x23_1) != 0) = false := bne_eq_false_iff_eq.mpr c11
                clear c11
                have H' := Aside0.mk H
                clear H
                have p156 : 0 ≤ (x23_1 : Int) := of_decide_eq_true (by first | (with_reducible assumption) | assumption)
                have q156 : x23_1 < (t149.length : Int) := of_decide_eq_true (by first | (with_reducible assumption) | assumption)
                obtain ⟨ad156, e156, hx156_0⟩ := Kd.at_int (Kd.R_reads' HO_21.out).2.2 x23_1 p156 q156
                cases e156
                replace p156 := eq_true p156
                replace q156 := eq_true q156
                go_wp2
                go_roundg k1
                case measure => have := HK1.out; omega
                case rel => exact ⟨(wrap64 (x23_1 + 1)), (by first | rfl | (simp; done) | (simp [*]; done)), H', ⟨by have := HK1.out; omega⟩, ⟨by (with_reducible repeat (first | apply Kd.R_alloc | apply Kd.R_drewN | apply Kd.R_drew)); exact HO_4.out⟩, ⟨by (with_reducible repeat (first | apply Kd.R_alloc | apply Kd.R_drewN | apply Kd.R_drew)); exact HO_21.out⟩, ⟨by repeat (first | (with_reducible first | exact HB.out | apply below_alloc | apply pw_below_drewN | apply below_drew1) | exact HB.out)⟩⟩
              · rw [if_neg c11] at H
                have c11b0 : ((rd t149 x23_1) == 0) = false := beq_eq_false_iff_ne.mpr c11
                have c11b1 : ((rd t149 x23_1) != 0) = true := bne_iff_ne.mpr c11
                obtain rfl := Option.some.inj H
                have p156 : 0 ≤ (x23_1 : Int) := of_decide_eq_true (by first | (with_reducible assumption) | assumption)
                have q156 : x23_1 < (t149.length : Int) := of_decide_eq_true (by first | (with_reducible assumption) | assumption)
                obtain ⟨ad156, e156, hx156_0⟩ := Kd.at_int (Kd.R_reads' HO_21.out).2.2 x23_1 p156 q156
                cases e156
                replace p156 := eq_true p156
                replace q156 := eq_true q156
                go_wp2
                go_ret
                exact ⟨by first | rfl | (simp [errW_none, errW_some] <;> rfl) | (simp [*, errW_none, errW_some] <;> rfl), by repeat (first | (with_reducible first | exact HB.out | apply below_alloc | apply pw_below_drewN | apply below_drew1) | exact HB.out)⟩
            · rw [if_neg c10] at H
              have c10b0 : decide (0 < x23_1) = false := decide_eq_false c10
              clear c10
              have H' := Aside0.mk H
              clear H
              have p156 : 0 ≤ (x23_1 : Int) := of_decide_eq_true (by first | (with_reducible assumption) | assumption)
              have q156 : x23_1 < (t149.length : Int) := of_decide_eq_true (by first | (with_reducible assumption) | assumption)
              obtain ⟨ad156, e156, hx156_0⟩ := Kd.at_int (Kd.R_reads' HO_21.out).2.2 x23_1 p156 q156
              cases e156
              replace p156 := eq_true p156
              replace q156 := eq_true q156
              go_wp2
              go_roundg k1
              case measure => have := HK1.out; omega
              case rel => exact ⟨(wrap64 (x23_1 + 1)), (by first | rfl | (simp; done) | (simp [*]; done)), H', ⟨by have := HK1.out; omega⟩, ⟨by (with_reducible repeat (first | apply Kd.R_alloc | apply Kd.R_drewN | apply Kd.R_drew)); exact HO_4.out⟩, ⟨by (with_reducible repeat (first | apply Kd.R_alloc | apply Kd.R_drewN | apply Kd.R_drew)); exact HO_21.out⟩, ⟨by repeat (first | (with_reducible first | exact HB.out | apply below_alloc | apply pw_below_drewN | apply below_drew1) | exact HB.out)⟩⟩
          · rw [if_neg c9] at H
            exact absurd H (by simp)
        · rw [if_neg c8] at H
          exact absurd H (by simp)
      · rw [if_neg c7] at H
        have c7b0 : decide (x23_1 < (t149.length : Int)) = false := decide_eq_false c7
        clear c7
        by_cases c12 : t153 = true
        · subst c12
          have H1 : (if (t152.length : Int) = 1 then (if 0 < (t152.length : Int) then (if (((rd_T51 t152 0).f0) == 0 && (((rd_T51 t152 0).f1) == (wrap64 (8 * (wrap64 (1 + (wrap64 (Int.tmod (IntKind.u64.wrap (a0)) 64)))))) && (!((rd_T51 t152 0).f2)))) = true then ((chain_Most.f k1 t152).bind fun t158 => (if t158 = (wrap64 (8 * (wrap64 (1 + (wrap64 (Int.tmod (IntKind.u64.wrap (a0)) 64)))))) then ((chain_Free.f k1 t152).bind fun t159 => (if t159 = (wrap64 (8 * (wrap64 (1 + (wrap64 (Int.tmod (IntKind.u64.wrap (a0)) 64)))))) then ((chain_First.f (wrap64 ((wrap64 (8 * (wrap64 (1 + (wrap64 (Int.tmod (IntKind.u64.wrap (a0)) 64)))))) + 1))).bind fun t160 => (if (t160.length : Int) = 0 then ((chain_First.f 0).bind fun t163 => (if (t163.length : Int) = 0 then ((darninglaw14_awake.f k1).bind fun t166 => (some t166)) else (some false))) else (some false))) else (some false))) else (some false))) else (some false)) else (none)) else (some false)) = some r := by rw [if_pos rfl] at H; exact H
          clear H
          have H := H1
          clear H1
          by_cases c13 : (t152.length : Int) = 1
          · rw [if_pos c13] at H
            have c13b0 : ((t152.length : Int) == 1) = true := beq_iff_eq.mpr c13
            have c13b1 : ((t152.length : Int) != 1) = false := bne_eq_false_iff_eq.mpr c13
            clear c13
            by_cases c14 : 0 < (t152.length : Int)
            · rw [if_pos c14] at H
              have c14b0 : decide (0 < (t152.length : Int)) = true := decide_eq_true c14
              have c14b1 : decide (0 < t152.length) = true := decide_eq_true (by omega)
              clear c14
              by_cases c15 : (((rd_T51 t152 0).f0) == 0 && (((rd_T51 t152 0).f1) == (wrap64 (8 * (wrap64 (1 + (wrap64 (Int.tmod (IntKind.u64.wrap (a0)) 64)))))) && (!((rd_T51 t152 0).f2)))) = true
              · rw [if_pos c15] at H
                have c15b0 : (((rd_T51 t152 0).f0) == 0 && (((rd_T51 t152 0).f1) == (wrap64 (8 * (wrap64 (1 + (wrap64 (Int.tmod (IntKind.u64.wrap (a0)) 64)))))) && (!((rd_T51 t152 0).f2)))) = true := c15
                (try (have c15b1 : decide (((rd_T51 t152 0).f0) = 0 && (((rd_T51 t152 0).f1) == (wrap64 (8 * (wrap64 (1 + (wrap64 (Int.tmod (IntKind.u64.wrap (a0)) 64)))))) && (!((rd_T51 t152 0).f2)))) = true := by simpa using c15))
                (try (have c15b2 : (((rd_T51 t152 0).f0) == 0 && (((rd_T51 t152 0).f1) == (wrap64 (8 * (wrap64 (1 + (wrap64 (Int.tmod (IntKind.u64.wrap (a0)) 64)))))) && (!((rd_T51 t152 0).f2)))) = true := by simpa using c15))
                clear c15
                replace H := Option.bind_eq_some_iff.mp H
                obtain ⟨t158, A160, H⟩ := H
                replace H : (if t158 = (wrap64 (8 * (wrap64 (1 + (wrap64 (Int.tmod (IntKind.u64.wrap (a0)) 64)))))) then ((chain_Free.f k1 t152).bind fun t159 => (if t159 = (wrap64 (8 * (wrap64 (1 + (wrap64 (Int.tmod (IntKind.u64.wrap (a0)) 64)))))) then ((chain_First.f (wrap64 ((wrap64 (8 * (wrap64 (1 + (wrap64 (Int.tmod (IntKind.u64.wrap (a0)) 64)))))) + 1))).bind fun t160 => (if (t160.length : Int) = 0 then ((chain_First.f 0).bind fun t163 => (if (t163.length : Int) = 0 then ((darninglaw14_awake.f k1).bind fun t166 => (some t166)) else (some false))) else (some false))) else (some false))) else (some false)) = some r := H
                have A16 := Aside0.mk A160
                clear A160
                by_cases c17 : t158 = (wrap64 (8 * (wrap64 (1 + (wrap64 (Int.tmod (IntKind.u64.wrap (a0)) 64))))))
                · rw [if_pos c17] at H
                  have c17b0 : (t158 == (wrap64 (8 * (wrap64 (1 + (wrap64 (Int.tmod (IntKind.u64.wrap (a0)) 64))))))) = true := beq_iff_eq.mpr c17
                  have c17b1 : (t158 != (wrap64 (8 * (wrap64 (1 + (wrap64 (Int.tmod (IntKind.u64.wrap (a0)) 64))))))) = false := bne_eq_false_iff_eq.mpr c17
                  clear c17
                  replace H := Option.bind_eq_some_iff.mp H
                  obtain ⟨t159, A180, H⟩ := H
                  replace H : (if t159 = (wrap64 (8 * (wrap64 (1 + (wrap64 (Int.tmod (IntKind.u64.wrap (a0)) 64)))))) then ((chain_First.f (wrap64 ((wrap64 (8 * (wrap64 (1 + (wrap64 (Int.tmod (IntKind.u64.wrap (a0)) 64)))))) + 1))).bind fun t160 => (if (t160.length : Int) = 0 then ((chain_First.f 0).bind fun t163 => (if (t163.length : Int) = 0 then ((darninglaw14_awake.f k1).bind fun t166 => (some t166)) else (some false))) else (some false))) else (some false)) = some r := H
                  have A18 := Aside0.mk A180
                  clear A180
                  by_cases c19 : t159 = (wrap64 (8 * (wrap64 (1 + (wrap64 (Int.tmod (IntKind.u64.wrap (a0)) 64))))))
                  · rw [if_pos c19] at H
                    have c19b0 : (t159 == (wrap64 (8 * (wrap64 (1 + (wrap64 (Int.tmod (IntKind.u64.wrap (a0)) 64))))))) = true := beq_iff_eq.mpr c19
                    have c19b1 : (t159 != (wrap64 (8 * (wrap64 (1 + (wrap64 (Int.tmod (IntKind.u64.wrap (a0)) 64))))))) = false := bne_eq_false_iff_eq.mpr c19
                    clear c19
                    replace H := Option.bind_eq_some_iff.mp H
                    obtain ⟨t160, A200, H⟩ := H
                    replace H : (if (t160.length : Int) = 0 then ((chain_First.f 0).bind fun t163 => (if (t163.length : Int) = 0 then ((darninglaw14_awake.f k1).bind fun t166 => (some t166)) else (some false))) else (some false)) = some r := H
                    have A20 := Aside0.mk A200
                    clear A200
                    by_cases c21 : (t160.length : Int) = 0
                    · rw [if_pos c21] at H
                      have c21b0 : ((t160.length : Int) == 0) = true := beq_iff_eq.mpr c21
                      have c21b1 : ((t160.length : Int) != 0) = false := bne_eq_false_iff_eq.mpr c21
                      clear c21
                      replace H := Option.bind_eq_some_iff.mp H
                      obtain ⟨t163, A220, H⟩ := H
                      replace H : (if (t163.length : Int) = 0 then ((darninglaw14_awake.f k1).bind fun t166 => (some t166)) else (some false)) = some r := H
                      have A22 := Aside0.mk A220
                      clear A220
                      by_cases c23 : (t163.length : Int) = 0
                      · rw [if_pos c23] at H
                        have c23b0 : ((t163.length : Int) == 0) = true := beq_iff_eq.mpr c23
                        have c23b1 : ((t163.length : Int) != 0) = false := bne_eq_false_iff_eq.mpr c23
                        clear c23
                        replace H := Option.bind_eq_some_iff.mp H
                        obtain ⟨t166, A240, H⟩ := H
                        replace H : (some t166) = some r := H
                        have A24 := Aside0.mk A240
                        clear A240
                        obtain rfl := Option.some.inj H
                        obtain ⟨Ao25, co25, eo25⟩ := Kd.R_slice HO_4.out
                        subst eo25
                        have p157 : 0 ≤ (0 : Int) := (by omega)
                        have q157 : 0 < (t152.length : Int) := of_decide_eq_true (by first | (with_reducible assumption) | assumption)
                        obtain ⟨ad157, e157, hx157_0, hx157_1, hx157_2⟩ := at_T51 (Kd.R_reads' HO_4.out).2.2 0 p157 q157
                        cases e157
                        have qi157 : (0 < t152.length) = True := eq_true (by omega)
                        (try rw [show ((0 : Int)).toNat = 0 from rfl] at hx157_0)
                        (try rw [show 0 * 3 = 0 from rfl] at hx157_0)
                        (try rw [Addr.add_zero'] at hx157_0)
                        (try rw [show ((0 : Int)).toNat = 0 from rfl] at hx157_1)
                        (try rw [show 0 * 3 = 0 from rfl] at hx157_1)
                        (try rw [Addr.add_zero'] at hx157_1)
                        (try rw [show ((0 : Int)).toNat = 0 from rfl] at hx157_2)
                        (try rw [show 0 * 3 = 0 from rfl] at hx157_2)
                        (try rw [Addr.add_zero'] at hx157_2)
                        replace p157 := eq_true p157
                        replace q157 := eq_true q157
                        go_wp2_with (first | (go_at_call 33; (with_reducible refine (chain_Most.calls k1 _ _ t152 t158 _ ?side1 ?side2 A16.out).mono ?_); (case side1 => repeat (first | exact (Kd.R_reads' HO_4.out).2.2 | (with_reducible refine Kd.C_alloc ?_ _) | (with_reducible refine Kd.C_drewN ?_ _) | (with_reducible refine Kd.C_drew ?_))); (case side2 => exact (Kd.R_reads' HO_4.out).2.1); rintro e w26 ⟨rfl, hb⟩; have n0_ := Aside0.mk (Kd.R_below (by (with_reducible repeat (first | apply Kd.R_alloc | apply Kd.R_drewN | apply Kd.R_drew)); exact HO_4.out) hb); have n1_ := Aside0.mk (Kd.R_below (by (with_reducible repeat (first | apply Kd.R_alloc | apply Kd.R_drewN | apply Kd.R_drew)); exact HO_21.out) hb); have n2_ := Aside0.mk (below_step (by repeat (first | (with_reducible first | exact HB.out | apply below_alloc | apply pw_below_drewN | apply below_drew1) | exact HB.out)) hb); clear HO_4; clear HO_21; clear HB; have HO_4 := n0_; have HO_21 := n1_; have HB := n2_; clear n0_ n1_ n2_; (try clear hb); (try clear hb2); (try clear hk); (try clear hi)) | (go_at_call 31; (with_reducible refine (chain_Free.calls k1 _ _ t152 t159 _ ?side1 ?side2 A18.out).mono ?_); (case side1 => repeat (first | exact (Kd.R_reads' HO_4.out).2.2 | (with_reducible refine Kd.C_alloc ?_ _) | (with_reducible refine Kd.C_drewN ?_ _) | (with_reducible refine Kd.C_drew ?_))); (case side2 => exact (Kd.R_reads' HO_4.out).2.1); rintro e w27 ⟨rfl, hb⟩; have n0_ := Aside0.mk (Kd.R_below (by (with_reducible repeat (first | apply Kd.R_alloc | apply Kd.R_drewN | apply Kd.R_drew)); exact HO_4.out) hb); have n1_ := Aside0.mk (Kd.R_below (by (with_reducible repeat (first | apply Kd.R_alloc | apply Kd.R_drewN | apply Kd.R_drew)); exact HO_21.out) hb); have n2_ := Aside0.mk (below_step (by repeat (first | (with_reducible first | exact HB.out | apply below_alloc | apply pw_below_drewN | apply below_drew1) | exact HB.out)) hb); clear HO_4; clear HO_21; clear HB; have HO_4 := n0_; have HO_21 := n1_; have HB := n2_; clear n0_ n1_ n2_; (try clear hb); (try clear hb2); (try clear hk); (try clear hi)) | (go_at_call 27; (with_reducible refine (chain_First.calls (wrap64 ((wrap64 (8 * (wrap64 (1 + (wrap64 (Int.tmod (IntKind.u64.wrap (a0)) 64)))))) + 1)) t160 _ A20.out).mono ?_); rintro e w28 ⟨v161, rfl, ho0, hb⟩; have n0_ := Aside0.mk (Kd.R_below (by (with_reducible repeat (first | apply Kd.R_alloc | apply Kd.R_drewN | apply Kd.R_drew)); exact HO_4.out) hb); have n1_ := Aside0.mk (Kd.R_elder' (by (with_reducible repeat (first | apply Kd.R_alloc | apply Kd.R_drewN | apply Kd.R_drew)); exact HO_21.out) (Kd.R_base ho0) hb); have n2_ := Aside0.mk (Kd.R_lower (Kd.R_new' ho0 (Kd.R_lt (by (with_reducible repeat (first | apply Kd.R_alloc | apply Kd.R_drewN | apply Kd.R_drew)); exact HO_21.out))) (below_size (by repeat (first | (with_reducible first | exact HB.out | apply below_alloc | apply pw_below_drewN | apply below_drew1) | exact HB.out)))); have n3_ := Aside0.mk (below_step (by repeat (first | (with_reducible first | exact HB.out | apply below_alloc | apply pw_below_drewN | apply below_drew1) | exact HB.out)) hb); clear HO_4; clear HO_21; clear HB; have HO_4 := n0_; have HO_21 := n1_; have HO162 := n2_; have HB := n3_; clear n0_ n1_ n2_ n3_; (try clear hb); (try clear hb2); (try clear hk); (try clear hi); (try clear ho0); obtain ⟨Ao29, co29, eo29⟩ := Kd.R_slice HO162.out; subst eo29) | (go_at_call 27; (with_reducible refine (chain_First.calls 0 t163 _ A22.out).mono ?_); rintro e w30 ⟨v164, rfl, ho0, hb⟩; have n0_ := Aside0.mk (Kd.R_below (by (with_reducible repeat (first | apply Kd.R_alloc | apply Kd.R_drewN | apply Kd.R_drew)); exact HO_4.out) hb); have n1_ := Aside0.mk (Kd.R_elder' (by (with_reducible repeat (first | apply Kd.R_alloc | apply Kd.R_drewN | apply Kd.R_drew)); exact HO_21.out) (Kd.R_base ho0) hb); have n2_ := Aside0.mk (Kd.R_elder' (by (with_reducible repeat (first | apply Kd.R_alloc | apply Kd.R_drewN | apply Kd.R_drew)); exact HO162.out) (Kd.R_base ho0) hb); have n3_ := Aside0.mk (Kd.R_lower (Kd.R_new' (Kd.R_new' ho0 (Kd.R_lt (by (with_reducible repeat (first | apply Kd.R_alloc | apply Kd.R_drewN | apply Kd.R_drew)); exact HO_21.out))) (Kd.R_lt (by (with_reducible repeat (first | apply Kd.R_alloc | apply Kd.R_drewN | apply Kd.R_drew)); exact HO162.out))) (below_size (by repeat (first | (with_reducible first | exact HB.out | apply below_alloc | apply pw_below_drewN | apply below_drew1) | exact HB.out)))); have n4_ := Aside0.mk (below_step (by repeat (first | (with_reducible first | exact HB.out | apply below_alloc | apply pw_below_drewN | apply below_drew1) | exact HB.out)) hb); clear HO_4; clear HO_21; clear HO162; clear HB; have HO_4 := n0_; have HO_21 := n1_; have HO162 := n2_; have HO165 := n3_; have HB := n4_; clear n0_ n1_ n2_ n3_ n4_; (try clear hb); (try clear hb2); (try clear hk); (try clear hi); (try clear ho0); obtain ⟨Ao31, co31, eo31⟩ := Kd.R_slice HO165.out; subst eo31) | (go_at_call 22; (with_reducible refine (darninglaw14_awake.calls k1  t166 _ A24.out).mono ?_); rintro e w32 ⟨rfl, hb⟩; have n0_ := Aside0.mk (Kd.R_below (by (with_reducible repeat (first | apply Kd.R_alloc | apply Kd.R_drewN | apply Kd.R_drew)); exact HO_4.out) hb); have n1_ := Aside0.mk (Kd.R_below (by (with_reducible repeat (first | apply Kd.R_alloc | apply Kd.R_drewN | apply Kd.R_drew)); exact HO_21.out) hb); have n2_ := Aside0.mk (Kd.R_below (by (with_reducible repeat (first | apply Kd.R_alloc | apply Kd.R_drewN | apply Kd.R_drew)); exact HO162.out) hb); have n3_ := Aside0.mk (Kd.R_below (by (with_reducible repeat (first | apply Kd.R_alloc | apply Kd.R_drewN | apply Kd.R_drew)); exact HO165.out) hb); have n4_ := Aside0.mk (below_step (by repeat (first | (with_reducible first | exact HB.out | apply below_alloc | apply pw_below_drewN | apply below_drew1) | exact HB.out)) hb); clear HO_4; clear HO_21; clear HO162; clear HO165; clear HB; have HO_4 := n0_; have HO_21 := n1_; have HO162 := n2_; have HO165 := n3_; have HB := n4_; clear n0_ n1_ n2_ n3_ n4_; (try clear hb); (try clear hb2); (try clear hk); (try clear hi)))
                        go_ret
                        exact ⟨by first | rfl | (simp [errW_none, errW_some] <;> rfl) | (simp [*, errW_none, errW_some] <;> rfl), by repeat (first | (with_reducible first | exact HB.out | apply below_alloc | apply pw_below_drewN | apply below_drew1) | exact HB.out)⟩
                      · rw [if_neg c23] at H
                        have c23b0 : ((t163.length : Int) == 0) = false := beq_eq_false_iff_ne.mpr c23
                        have c23b1 : ((t163.length : Int) != 0) = true := bne_iff_ne.mpr c23
                        have c23b2 : ¬ (t163 = []) := fun h_ => c23 (by rw [h_]; rfl)
                        obtain rfl := Option.some.inj H
                        obtain ⟨Ao33, co33, eo33⟩ := Kd.R_slice HO_4.out
                        subst eo33
                        have p157 : 0 ≤ (0 : Int) := (by omega)
                        have q157 : 0 < (t152.length : Int) := of_decide_eq_true (by first | (with_reducible assumption) | assumption)
                        obtain ⟨ad157, e157, hx157_0, hx157_1, hx157_2⟩ := at_T51 (Kd.R_reads' HO_4.out).2.2 0 p157 q157
                        cases e157
                        have qi157 : (0 < t152.length) = True := eq_true (by omega)
                        (try rw [show ((0 : Int)).toNat = 0 from rfl] at hx157_0)
                        (try rw [show 0 * 3 = 0 from rfl] at hx157_0)
                        (try rw [Addr.add_zero'] at hx157_0)
                        (try rw [show ((0 : Int)).toNat = 0 from rfl] at hx157_1)
                        (try rw [show 0 * 3 = 0 from rfl] at hx157_1)
                        (try rw [Addr.add_zero'] at hx157_1)
                        (try rw [show ((0 : Int)).toNat = 0 from rfl] at hx157_2)
                        (try rw [show 0 * 3 = 0 from rfl] at hx157_2)
                        (try rw [Addr.add_zero'] at hx157_2)
                        replace p157 := eq_true p157
                        replace q157 := eq_true q157
                        go_wp2_with (first | (go_at_call 33; (with_reducible refine (chain_Most.calls k1 _ _ t152 t158 _ ?side1 ?side2 A16.out).mono ?_); (case side1 => repeat (first | exact (Kd.R_reads' HO_4.out).2.2 | (with_reducible refine Kd.C_alloc ?_ _) | (with_reducible refine Kd.C_drewN ?_ _) | (with_reducible refine Kd.C_drew ?_))); (case side2 => exact (Kd.R_reads' HO_4.out).2.1); rintro e w34 ⟨rfl, hb⟩; have n0_ := Aside0.mk (Kd.R_below (by (with_reducible repeat (first | apply Kd.R_alloc | apply Kd.R_drewN | apply Kd.R_drew)); exact HO_4.out) hb); have n1_ := Aside0.mk (Kd.R_below (by (with_reducible repeat (first | apply Kd.R_alloc | apply Kd.R_drewN | apply Kd.R_drew)); exact HO_21.out) hb); have n2_ := Aside0.mk (below_step (by repeat (first | (with_reducible first | exact HB.out | apply below_alloc | apply pw_below_drewN | apply below_drew1) | exact HB.out)) hb); clear HO_4; clear HO_21; clear HB; have HO_4 := n0_; have HO_21 := n1_; have HB := n2_; clear n0_ n1_ n2_; (try clear hb); (try clear hb2); (try clear hk); (try clear hi)) | (go_at_call 31; (with_reducible refine (chain_Free.calls k1 _ _ t152 t159 _ ?side1 ?side2 A18.out).mono ?_); (case side1 => repeat (first | exact (Kd.R_reads' HO_4.out).2.2 | (with_reducible refine Kd.C_alloc ?_ _) | (with_reducible refine Kd.C_drewN ?_ _) | (with_reducible refine Kd.C_drew ?_))); (case side2 => exact (Kd.R_reads' HO_4.out).2.1); rintro e w35 ⟨rfl, hb⟩; have n0_ := Aside0.mk (Kd.R_below (by (with_reducible repeat (first | apply Kd.R_alloc | apply Kd.R_drewN | apply Kd.R_drew)); exact HO_4.out) hb); have n1_ := Aside0.mk (Kd.R_below (by (with_reducible repeat (first | apply Kd.R_alloc | apply Kd.R_drewN | apply Kd.R_drew)); exact HO_21.out) hb); have n2_ := Aside0.mk (below_step (by repeat (first | (with_reducible first | exact HB.out | apply below_alloc | apply pw_below_drewN | apply below_drew1) | exact HB.out)) hb); clear HO_4; clear HO_21; clear HB; have HO_4 := n0_; have HO_21 := n1_; have HB := n2_; clear n0_ n1_ n2_; (try clear hb); (try clear hb2); (try clear hk); (try clear hi)) | (go_at_call 27; (with_reducible refine (chain_First.calls (wrap64 ((wrap64 (8 * (wrap64 (1 + (wrap64 (Int.tmod (IntKind.u64.wrap (a0)) 64)))))) + 1)) t160 _ A20.out).mono ?_); rintro e w36 ⟨v161, rfl, ho0, hb⟩; have n0_ := Aside0.mk (Kd.R_below (by (with_reducible repeat (first | apply Kd.R_alloc | apply Kd.R_drewN | apply Kd.R_drew)); exact HO_4.out) hb); have n1_ := Aside0.mk (Kd.R_elder' (by (with_reducible repeat (first | apply Kd.R_alloc | apply Kd.R_drewN | apply Kd.R_drew)); exact HO_21.out) (Kd.R_base ho0) hb); have n2_ := Aside0.mk (Kd.R_lower (Kd.R_new' ho0 (Kd.R_lt (by (with_reducible repeat (first | apply Kd.R_alloc | apply Kd.R_drewN | apply Kd.R_drew)); exact HO_21.out))) (below_size (by repeat (first | (with_reducible first | exact HB.out | apply below_alloc | apply pw_below_drewN | apply below_drew1) | exact HB.out)))); have n3_ := Aside0.mk (below_step (by repeat (first | (with_reducible first | exact HB.out | apply below_alloc | apply pw_below_drewN | apply below_drew1) | exact HB.out)) hb); clear HO_4; clear HO_21; clear HB; have HO_4 := n0_; have HO_21 := n1_; have HO162 := n2_; have HB := n3_; clear n0_ n1_ n2_ n3_; (try clear hb); (try clear hb2); (try clear hk); (try clear hi); (try clear ho0); obtain ⟨Ao37, co37, eo37⟩ := Kd.R_slice HO162.out; subst eo37) | (go_at_call 27; (with_reducible refine (chain_First.calls 0 t163 _ A22.out).mono ?_); rintro e w38 ⟨v164, rfl, ho0, hb⟩; have n0_ := Aside0.mk (Kd.R_below (by (with_reducible repeat (first | apply Kd.R_alloc | apply Kd.R_drewN | apply Kd.R_drew)); exact HO_4.out) hb); have n1_ := Aside0.mk (Kd.R_elder' (by (with_reducible repeat (first | apply Kd.R_alloc | apply Kd.R_drewN | apply Kd.R_drew)); exact HO_21.out) (Kd.R_base ho0) hb); have n2_ := Aside0.mk (Kd.R_elder' (by (with_reducible repeat (first | apply Kd.R_alloc | apply Kd.R_drewN | apply Kd.R_drew)); exact HO162.out) (Kd.R_base ho0) hb); have n3_ := Aside0.mk (Kd.R_lower (Kd.R_new' (Kd.R_new' ho0 (Kd.R_lt (by (with_reducible repeat (first | apply Kd.R_alloc | apply Kd.R_drewN | apply Kd.R_drew)); exact HO_21.out))) (Kd.R_lt (by (with_reducible repeat (first | apply Kd.R_alloc | apply Kd.R_drewN | apply Kd.R_drew)); exact HO162.out))) (below_size (by repeat (first | (with_reducible first | exact HB.out | apply below_alloc | apply pw_below_drewN | apply below_drew1) | exact HB.out)))); have n4_ := Aside0.mk (below_step (by repeat (first | (with_reducible first | exact HB.out | apply below_alloc | apply pw_below_drewN | apply below_drew1) | exact HB.out)) hb); clear HO_4; clear HO_21; clear HO162; clear HB; have HO_4 := n0_; have HO_21 := n1_; have HO162 := n2_; have HO165 := n3_; have HB := n4_; clear n0_ n1_ n2_ n3_ n4_; (try clear hb); (try clear hb2); (try clear hk); (try clear hi); (try clear ho0); obtain ⟨Ao39, co39, eo39⟩ := Kd.R_slice HO165.out; subst eo39))
                        go_ret
                        exact ⟨by first | rfl | (simp [errW_none, errW_some] <;> rfl) | (simp [*, errW_none, errW_some] <;> rfl), by repeat (first | (with_reducible first | exact HB.out | apply below_alloc | apply pw_below_drewN | apply below_drew1) | exact HB.out)⟩
                    · rw [if_neg c21] at H
                      have c21b0 : ((t160.length : Int) == 0) = false := beq_eq_false_iff_ne.mpr c21
                      have c21b1 : ((t160.length : Int) != 0) = true := bne_iff_ne.mpr c21
                      have c21b2 : ¬ (t160 = []) := fun h_ => c21 (by rw [h_]; rfl)
                      obtain rfl := Option.some.inj H
                      obtain ⟨Ao40, co40, eo40⟩ := Kd.R_slice HO_4.out
                      subst eo40
                      have p157 : 0 ≤ (0 : Int) := (by omega)
                      have q157 : 0 < (t152.length : Int) := of_decide_eq_true (by first | (with_reducible assumption) | assumption)
                      obtain ⟨ad157, e157, hx157_0, hx157_1, hx157_2⟩ := at_T51 (Kd.R_reads' HO_4.out).2.2 0 p157 q157
                      cases e157
                      have qi157 : (0 < t152.length) = True := eq_true (by omega)
                      (try rw [show ((0 : Int)).toNat = 0 from rfl] at hx157_0)
                      (try rw [show 0 * 3 = 0 from rfl] at hx157_0)
                      (try rw [Addr.add_zero'] at hx157_0)
                      (try rw [show ((0 : Int)).toNat = 0 from rfl] at hx157_1)
                      (try rw [show 0 * 3 = 0 from rfl] at hx157_1)
                      (try rw [Addr.add_zero'] at hx157_1)
                      (try rw [show ((0 : Int)).toNat = 0 from rfl] at hx157_2)
                      (try rw [show 0 * 3 = 0 from rfl] at hx157_2)
                      (try rw [Addr.add_zero'] at hx157_2)
                      replace p157 := eq_true p157
                      replace q157 := eq_true q157
                      go_wp2_with (first | (go_at_call 33; (with_reducible refine (chain_Most.calls k1 _ _ t152 t158 _ ?side1 ?side2 A16.out).mono ?_); (case side1 => repeat (first | exact (Kd.R_reads' HO_4.out).2.2 | (with_reducible refine Kd.C_alloc ?_ _) | (with_reducible refine Kd.C_drewN ?_ _) | (with_reducible refine Kd.C_drew ?_))); (case side2 => exact (Kd.R_reads' HO_4.out).2.1); rintro e w41 ⟨rfl, hb⟩; have n0_ := Aside0.mk (Kd.R_below (by (with_reducible repeat (first | apply Kd.R_alloc | apply Kd.R_drewN | apply Kd.R_drew)); exact HO_4.out) hb); have n1_ := Aside0.mk (Kd.R_below (by (with_reducible repeat (first | apply Kd.R_alloc | apply Kd.R_drewN | apply Kd.R_drew)); exact HO_21.out) hb); have n2_ := Aside0.mk (below_step (by repeat (first | (with_reducible first | exact HB.out | apply below_alloc | apply pw_below_drewN | apply below_drew1) | exact HB.out)) hb); clear HO_4; clear HO_21; clear HB; have HO_4 := n0_; have HO_21 := n1_; have HB := n2_; clear n0_ n1_ n2_; (try clear hb); (try clear hb2); (try clear hk); (try clear hi)) | (go_at_call 31; (with_reducible refine (chain_Free.calls k1 _ _ t152 t159 _ ?side1 ?side2 A18.out).mono ?_); (case side1 => repeat (first | exact (Kd.R_reads' HO_4.out).2.2 | (with_reducible refine Kd.C_alloc ?_ _) | (with_reducible refine Kd.C_drewN ?_ _) | (with_reducible refine Kd.C_drew ?_))); (case side2 => exact (Kd.R_reads' HO_4.out).2.1); rintro e w42 ⟨rfl, hb⟩; have n0_ := Aside0.mk (Kd.R_below (by (with_reducible repeat (first | apply Kd.R_alloc | apply Kd.R_drewN | apply Kd.R_drew)); exact HO_4.out) hb); have n1_ := Aside0.mk (Kd.R_below (by (with_reducible repeat (first | apply Kd.R_alloc | apply Kd.R_drewN | apply Kd.R_drew)); exact HO_21.out) hb); have n2_ := Aside0.mk (below_step (by repeat (first | (with_reducible first | exact HB.out | apply below_alloc | apply pw_below_drewN | apply below_drew1) | exact HB.out)) hb); clear HO_4; clear HO_21; clear HB; have HO_4 := n0_; have HO_21 := n1_; have HB := n2_; clear n0_ n1_ n2_; (try clear hb); (try clear hb2); (try clear hk); (try clear hi)) | (go_at_call 27; (with_reducible refine (chain_First.calls (wrap64 ((wrap64 (8 * (wrap64 (1 + (wrap64 (Int.tmod (IntKind.u64.wrap (a0)) 64)))))) + 1)) t160 _ A20.out).mono ?_); rintro e w43 ⟨v161, rfl, ho0, hb⟩; have n0_ := Aside0.mk (Kd.R_below (by (with_reducible repeat (first | apply Kd.R_alloc | apply Kd.R_drewN | apply Kd.R_drew)); exact HO_4.out) hb); have n1_ := Aside0.mk (Kd.R_elder' (by (with_reducible repeat (first | apply Kd.R_alloc | apply Kd.R_drewN | apply Kd.R_drew)); exact HO_21.out) (Kd.R_base ho0) hb); have n2_ := Aside0.mk (Kd.R_lower (Kd.R_new' ho0 (Kd.R_lt (by (with_reducible repeat (first | apply Kd.R_alloc | apply Kd.R_drewN | apply Kd.R_drew)); exact HO_21.out))) (below_size (by repeat (first | (with_reducible first | exact HB.out | apply below_alloc | apply pw_below_drewN | apply below_drew1) | exact HB.out)))); have n3_ := Aside0.mk (below_step (by repeat (first | (with_reducible first | exact HB.out | apply below_alloc | apply pw_below_drewN | apply below_drew1) | exact HB.out)) hb); clear HO_4; clear HO_21; clear HB; have HO_4 := n0_; have HO_21 := n1_; have HO162 := n2_; have HB := n3_; clear n0_ n1_ n2_ n3_; (try clear hb); (try clear hb2); (try clear hk); (try clear hi); (try clear ho0); obtain ⟨Ao44, co44, eo44⟩ := Kd.R_slice HO162.out; subst eo44))
                      go_ret
                      exact ⟨by first | rfl | (simp [errW_none, errW_some] <;> rfl) | (simp [*, errW_none, errW_some] <;> rfl), by repeat (first | (with_reducible first | exact HB.out | apply below_alloc | apply pw_below_drewN | apply below_drew1) | exact HB.out)⟩
                  · rw [if_neg c19] at H
                    have c19b0 : (t159 == (wrap64 (8 * (wrap64 (1 + (wrap64 (Int.tmod (IntKind.u64.wrap (a0)) 64))))))) = false := beq_eq_false_iff_ne.mpr c19
                    have c19b1 : (t159 != (wrap64 (8 * (wrap64 (1 + (wrap64 (Int.tmod (IntKind.u64.wrap (a0)) 64))))))) = true := bne_iff_ne.mpr c19
                    obtain rfl := Option.some.inj H
                    obtain ⟨Ao45, co45, eo45⟩ := Kd.R_slice HO_4.out
                    subst eo45
                    have p157 : 0 ≤ (0 : Int) := (by omega)
                    have q157 : 0 < (t152.length : Int) := of_decide_eq_true (by first | (with_reducible assumption) | assumption)
                    obtain ⟨ad157, e157, hx157_0, hx157_1, hx157_2⟩ := at_T51 (Kd.R_reads' HO_4.out).2.2 0 p157 q157
                    cases e157
                    have qi157 : (0 < t152.length) = True := eq_true (by omega)
                    (try rw [show ((0 : Int)).toNat = 0 from rfl] at hx157_0)
                    (try rw [show 0 * 3 = 0 from rfl] at hx157_0)
                    (try rw [Addr.add_zero'] at hx157_0)
                    (try rw [show ((0 : Int)).toNat = 0 from rfl] at hx157_1)
                    (try rw [show 0 * 3 = 0 from rfl] at hx157_1)
                    (try rw [Addr.add_zero'] at hx157_1)
                    (try rw [show ((0 : Int)).toNat = 0 from rfl] at hx157_2)
                    (try rw [show 0 * 3 = 0 from rfl] at hx157_2)
                    (try rw [Addr.add_zero'] at hx157_2)
                    replace p157 := eq_true p157
                    replace q157 := eq_true q157
                    go_wp2_with (first | (go_at_call 33; (with_reducible refine (chain_Most.calls k1 _ _ t152 t158 _ ?side1 ?side2 A16.out).mono ?_); (case side1 => repeat (first | exact (Kd.R_reads' HO_4.out).2.2 | (with_reducible refine Kd.C_alloc ?_ _) | (with_reducible refine Kd.C_drewN ?_ _) | (with_reducible refine Kd.C_drew ?_))); (case side2 => exact (Kd.R_reads' HO_4.out).2.1); rintro e w46 ⟨rfl, hb⟩; have n0_ := Aside0.mk (Kd.R_below (by (with_reducible repeat (first | apply Kd.R_alloc | apply Kd.R_drewN | apply Kd.R_drew)); exact HO_4.out) hb); have n1_ := Aside0.mk (Kd.R_below (by (with_reducible repeat (first | apply Kd.R_alloc | apply Kd.R_drewN | apply Kd.R_drew)); exact HO_21.out) hb); have n2_ := Aside0.mk (below_step (by repeat (first | (with_reducible first | exact HB.out | apply below_alloc | apply pw_below_drewN | apply below_drew1) | exact HB.out)) hb); clear HO_4; clear HO_21; clear HB; have HO_4 := n0_; have HO_21 := n1_; have HB := n2_; clear n0_ n1_ n2_; (try clear hb); (try clear hb2); (try clear hk); (try clear hi)) | (go_at_call 31; (with_reducible refine (chain_Free.calls k1 _ _ t152 t159 _ ?side1 ?side2 A18.out).mono ?_); (case side1 => repeat (first | exact (Kd.R_reads' HO_4.out).2.2 | (with_reducible refine Kd.C_alloc ?_ _) | (with_reducible refine Kd.C_drewN ?_ _) | (with_reducible refine Kd.C_drew ?_))); (case side2 => exact (Kd.R_reads' HO_4.out).2.1); rintro e w47 ⟨rfl, hb⟩; have n0_ := Aside0.mk (Kd.R_below (by (with_reducible repeat (first | apply Kd.R_alloc | apply Kd.R_drewN | apply Kd.R_drew)); exact HO_4.out) hb); have n1_ := Aside0.mk (Kd.R_below (by (with_reducible repeat (first | apply Kd.R_alloc | apply Kd.R_drewN | apply Kd.R_drew)); exact HO_21.out) hb); have n2_ := Aside0.mk (below_step (by repeat (first | (with_reducible first | exact HB.out | apply below_alloc | apply pw_below_drewN | apply below_drew1) | exact HB.out)) hb); clear HO_4; clear HO_21; clear HB; have HO_4 := n0_; have HO_21 := n1_; have HB := n2_; clear n0_ n1_ n2_; (try clear hb); (try clear hb2); (try clear hk); (try clear hi)))
                    go_ret
                    exact ⟨by first | rfl | (simp [errW_none, errW_some] <;> rfl) | (simp [*, errW_none, errW_some] <;> rfl), by repeat (first | (with_reducible first | exact HB.out | apply below_alloc | apply pw_below_drewN | apply below_drew1) | exact HB.out)⟩
                · rw [if_neg c17] at H
                  have c17b0 : (t158 == (wrap64 (8 * (wrap64 (1 + (wrap64 (Int.tmod (IntKind.u64.wrap (a0)) 64))))))) = false := beq_eq_false_iff_ne.mpr c17
                  have c17b1 : (t158 != (wrap64 (8 * (wrap64 (1 + (wrap64 (Int.tmod (IntKind.u64.wrap (a0)) 64))))))) = true := bne_iff_ne.mpr c17
                  obtain rfl := Option.some.inj H
                  obtain ⟨Ao48, co48, eo48⟩ := Kd.R_slice HO_4.out
                  subst eo48
                  have p157 : 0 ≤ (0 : Int) := (by omega)
                  have q157 : 0 < (t152.length : Int) := of_decide_eq_true (by first | (with_reducible assumption) | assumption)
                  obtain ⟨ad157, e157, hx157_0, hx157_1, hx157_2⟩ := at_T51 (Kd.R_reads' HO_4.out).2.2 0 p157 q157
                  cases e157
                  have qi157 : (0 < t152.length) = True := eq_true (by omega)
                  (try rw [show ((0 : Int)).toNat = 0 from rfl] at hx157_0)
                  (try rw [show 0 * 3 = 0 from rfl] at hx157_0)
                  (try rw [Addr.add_zero'] at hx157_0)
                  (try rw [show ((0 : Int)).toNat = 0 from rfl] at hx157_1)
                  (try rw [show 0 * 3 = 0 from rfl] at hx157_1)
                  (try rw [Addr.add_zero'] at hx157_1)
                  (try rw [show ((0 : Int)).toNat = 0 from rfl] at hx157_2)
                  (try rw [show 0 * 3 = 0 from rfl] at hx157_2)
                  (try rw [Addr.add_zero'] at hx157_2)
                  replace p157 := eq_true p157
                  replace q157 := eq_true q157
                  go_wp2_with (first | (go_at_call 33; (with_reducible refine (chain_Most.calls k1 _ _ t152 t158 _ ?side1 ?side2 A16.out).mono ?_); (case side1 => repeat (first | exact (Kd.R_reads' HO_4.out).2.2 | (with_reducible refine Kd.C_alloc ?_ _) | (with_reducible refine Kd.C_drewN ?_ _) | (with_reducible refine Kd.C_drew ?_))); (case side2 => exact (Kd.R_reads' HO_4.out).2.1); rintro e w49 ⟨rfl, hb⟩; have n0_ := Aside0.mk (Kd.R_below (by (with_reducible repeat (first | apply Kd.R_alloc | apply Kd.R_drewN | apply Kd.R_drew)); exact HO_4.out) hb); have n1_ := Aside0.mk (Kd.R_below (by (with_reducible repeat (first | apply Kd.R_alloc | apply Kd.R_drewN | apply Kd.R_drew)); exact HO_21.out) hb); have n2_ := Aside0.mk (below_step (by repeat (first | (with_reducible first | exact HB.out | apply below_alloc | apply pw_below_drewN | apply below_drew1) | exact HB.out)) hb); clear HO_4; clear HO_21; clear HB; have HO_4 := n0_; have HO_21 := n1_; have HB := n2_; clear n0_ n1_ n2_; (try clear hb); (try clear hb2); (try clear hk); (try clear hi)))
                  go_ret
                  exact ⟨by first | rfl | (simp [errW_none, errW_some] <;> rfl) | (simp [*, errW_none, errW_some] <;> rfl), by repeat (first | (with_reducible first | exact HB.out | apply below_alloc | apply pw_below_drewN | apply below_drew1) | exact HB.out)⟩
              · rw [if_neg c15] at H
                have c15b0 : (((rd_T51 t152 0).f0) == 0 && (((rd_T51 t152 0).f1) == (wrap64 (8 * (wrap64 (1 + (wrap64 (Int.tmod (IntKind.u64.wrap (a0)) 64)))))) && (!((rd_T51 t152 0).f2)))) = false := by simpa using c15
                (try (have c15b1 : decide (((rd_T51 t152 0).f0) = 0 && (((rd_T51 t152 0).f1) == (wrap64 (8 * (wrap64 (1 + (wrap64 (Int.tmod (IntKind.u64.wrap (a0)) 64)))))) && (!((rd_T51 t152 0).f2)))) = false := by simpa using c15))
                (try (have c15b2 : (((rd_T51 t152 0).f0) == 0 && (((rd_T51 t152 0).f1) == (wrap64 (8 * (wrap64 (1 + (wrap64 (Int.tmod (IntKind.u64.wrap (a0)) 64)))))) && (!((rd_T51 t152 0).f2)))) = false := by simpa using c15))
                (try (have c15b3 : ¬ (((rd_T51 t152 0).f0) = 0 && (((rd_T51 t152 0).f1) == (wrap64 (8 * (wrap64 (1 + (wrap64 (Int.tmod (IntKind.u64.wrap (a0)) 64)))))) && (!((rd_T51 t152 0).f2)))) := by simpa using c15))
                clear c15
                obtain rfl := Option.some.inj H
                obtain ⟨Ao50, co50, eo50⟩ := Kd.R_slice HO_4.out
                subst eo50
                have p157 : 0 ≤ (0 : Int) := (by omega)
                have q157 : 0 < (t152.length : Int) := of_decide_eq_true (by first | (with_reducible assumption) | assumption)
                obtain ⟨ad157, e157, hx157_0, hx157_1, hx157_2⟩ := at_T51 (Kd.R_reads' HO_4.out).2.2 0 p157 q157
                cases e157
                have qi157 : (0 < t152.length) = True := eq_true (by omega)
                (try rw [show ((0 : Int)).toNat = 0 from rfl] at hx157_0)
                (try rw [show 0 * 3 = 0 from rfl] at hx157_0)
                (try rw [Addr.add_zero'] at hx157_0)
                (try rw [show ((0 : Int)).toNat = 0 from rfl] at hx157_1)
                (try rw [show 0 * 3 = 0 from rfl] at hx157_1)
                (try rw [Addr.add_zero'] at hx157_1)
                (try rw [show ((0 : Int)).toNat = 0 from rfl] at hx157_2)
                (try rw [show 0 * 3 = 0 from rfl] at hx157_2)
                (try rw [Addr.add_zero'] at hx157_2)
                replace p157 := eq_true p157
                replace q157 := eq_true q157
                go_wp2
                go_ret
                exact ⟨by first | rfl | (simp [errW_none, errW_some] <;> rfl) | (simp [*, errW_none, errW_some] <;> rfl), by repeat (first | (with_reducible first | exact HB.out | apply below_alloc | apply pw_below_drewN | apply below_drew1) | exact HB.out)⟩
            · rw [if_neg c14] at H
              exact absurd H (by simp)
          · rw [if_neg c13] at H
            have c13b0 : ((t152.length : Int) == 1) = false := beq_eq_false_iff_ne.mpr c13
            have c13b1 : ((t152.length : Int) != 1) = true := bne_iff_ne.mpr c13
            obtain rfl := Option.some.inj H
            obtain ⟨Ao51, co51, eo51⟩ := Kd.R_slice HO_4.out
            subst eo51
            go_wp2
            go_ret
            exact ⟨by first | rfl | (simp [errW_none, errW_some] <;> rfl) | (simp [*, errW_none, errW_some] <;> rfl), by repeat (first | (with_reducible first | exact HB.out | apply below_alloc | apply pw_below_drewN | apply below_drew1) | exact HB.out)⟩
        · replace c12 := Bool.eq_false_iff.mpr c12
          subst c12
          have H1 : (some false) = some r := by rw [if_neg (show ¬ (false = true) by decide)] at H; exact H
          clear H
          have H := H1
          clear H1
          obtain rfl := Option.some.inj H
          go_wp2
          go_ret
          exact ⟨by first | rfl | (simp [errW_none, errW_some] <;> rfl) | (simp [*, errW_none, errW_some] <;> rfl), by repeat (first | (with_reducible first | exact HB.out | apply below_alloc | apply pw_below_drewN | apply below_drew1) | exact HB.out)⟩

/-- THE ONE PURE STATEMENT of darninglaw14_ChainFirst: yours. -/
def darninglaw14_ChainFirst.Pure : Prop := ∀ (a0 : Int), (Lit.int .i64 a0).wf = true → ∃ k, darninglaw14_ChainFirst.f k a0 = some true
theorem darninglaw14_ChainFirst.walk (P : darninglaw14_ChainFirst.Pure) (a0 : Int) (w : World) (w0 : (Lit.int .i64 a0).wf = true) :
    Calls Try.prog 11 #[.int .i64 a0] w fun e w' => e = .returned (.bool true) ∧ Below w.heap.size w w' := by
  obtain ⟨k, h⟩ := P a0 w0
  refine (darninglaw14_ChainFirst.calls k a0 true w h).mono ?_
  rintro e w' ⟨rfl, hd⟩
  exact ⟨rfl, hd⟩

end Go.Proofs.Ytfgggmojdefidaa.PChainFirst
