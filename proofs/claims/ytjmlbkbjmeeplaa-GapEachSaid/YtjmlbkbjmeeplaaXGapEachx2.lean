-- Laid by this session's own printer (wip/xprint.py): each Go function that the law reaches as a plain Lean function, and that the call comes to it.
import Derived.Test.YtjmlbkbjmeeplaaXGapEachx0
import Derived.Test.YtjmlbkbjmeeplaaXGapEachx1
namespace Go.Proofs.Ytjmlbkbjmeeplaa.XGapEach
open Go.RowKit Go.Proofs.YtjmlbkbjmeeplaaW.PrintWords Go.Proofs.YtjmlbkbjmeeplaaW.PrintLast Go.Proofs.YtjmlbkbjmeeplaaW.PrintMore
attribute [local go_sem] max2_int min2_int max_two min_two max_three min_three max_four min_four   -- for this text's walks alone
set_option linter.unusedVariables false
set_option linter.unusedSimpArgs false

/-! ### darninglaw8_GapEach: function 11 -/
mutual
def darninglaw8_GapEach.l0 : Nat → Int → Int → Int → List Int → Int → Int → Option (Bool)
  | 0, _, _, _, _, _, _ => none
  | k + 1, x0, x1, x2, x7, x33, x34 => if x34 < x33 then ((gap_Slot.f k x0 (wrap64 (x1 + x34)) x2).bind fun t119 => (if t119 < 0 then (some false) else (if t119 > x0 then (some false) else (if 0 ≤ t119 then (if t119 < (x7.length : Int) then (darninglaw8_GapEach.l0 k x0 x1 x2 (x7.set (t119 : Int).toNat (wrap64 ((rd x7 t119) + 1))) x33 (wrap64 (x34 + 1))) else (none)) else (none))))) else (darninglaw8_GapEach.l1 k x0 x7 (x7.length : Int) 0)
def darninglaw8_GapEach.l1 : Nat → Int → List Int → Int → Int → Option (Bool)
  | 0, _, _, _, _ => none
  | k + 1, x0, x57, x58, x59 => if x59 < x58 then (if 0 ≤ x59 then (if x59 < (x57.length : Int) then (if (rd x57 x59) < 1 then (some false) else (if (rd x57 x59) > (wrap64 (x0 + 1)) then (some false) else (darninglaw8_GapEach.l1 k x0 x57 x58 (wrap64 (x59 + 1))))) else (none)) else (none)) else ((darninglaw8_awake.f k).bind fun t123 => (some t123))
end
def darninglaw8_GapEach.f (k : Nat) (a0 : Int) (a1 : Int) (a2 : Int) : Option (Bool) := if (IntKind.u64.wrap (wrap64 (1 + (wrap64 (Int.tmod (IntKind.u64.wrap (a0)) 15))))) = 0 then (none) else (if 0 ≤ (wrap64 ((wrap64 (1 + (wrap64 (Int.tmod (IntKind.u64.wrap (a0)) 15)))) + 1)) then (if (wrap64 ((wrap64 (1 + (wrap64 (Int.tmod (IntKind.u64.wrap (a0)) 15)))) + 1) : Int).toNat ≤ 35184372088832 then (darninglaw8_GapEach.l0 k (wrap64 (1 + (wrap64 (Int.tmod (IntKind.u64.wrap (a0)) 15)))) (wrap64 (Int.tmod (IntKind.u64.wrap (a1)) 10000)) (wrap64 (Int.tmod (IntKind.u64.wrap (a2)) (IntKind.u64.wrap (wrap64 (1 + (wrap64 (Int.tmod (IntKind.u64.wrap (a0)) 15))))))) (List.replicate (wrap64 ((wrap64 (1 + (wrap64 (Int.tmod (IntKind.u64.wrap (a0)) 15)))) + 1) : Int).toNat 0) (wrap64 ((wrap64 (1 + (wrap64 (Int.tmod (IntKind.u64.wrap (a0)) 15)))) * (wrap64 ((wrap64 (1 + (wrap64 (Int.tmod (IntKind.u64.wrap (a0)) 15)))) + 1)))) 0) else (none)) else (none))
theorem darninglaw8_GapEach.mono_l : ∀ k, (∀ y0 y1 y2 y3 y4 y5, LeO (darninglaw8_GapEach.l0 k y0 y1 y2 y3 y4 y5) (darninglaw8_GapEach.l0 (k + 1) y0 y1 y2 y3 y4 y5)) ∧ (∀ y0 y1 y2 y3, LeO (darninglaw8_GapEach.l1 k y0 y1 y2 y3) (darninglaw8_GapEach.l1 (k + 1) y0 y1 y2 y3))
  | 0 => ⟨fun _ _ _ _ _ _ r h => by simp [darninglaw8_GapEach.l0] at h, fun _ _ _ _ r h => by simp [darninglaw8_GapEach.l1] at h⟩
  | k + 1 => by
    obtain ⟨ih0, ih1⟩ := darninglaw8_GapEach.mono_l k
    refine ⟨?_, ?_⟩
    · intro y0 y1 y2 y3 y4 y5
      unfold darninglaw8_GapEach.l0
      repeat' first
      | (with_reducible exact ih0 _ _ _ _ _ _)
      | (with_reducible exact ih1 _ _ _ _)
      | (with_reducible exact darninglaw8_awake.mono _)
      | (with_reducible exact gap_Slot.mono _ _ _ _)
      | (with_reducible exact LeO.refl _)
      | (with_reducible exact LeO.none _)
      | (with_reducible refine LeO.ite ?_ ?_)
      | (with_reducible refine LeO.bind ?_ (fun _ => ?_))
      | exact ih0 _ _ _ _ _ _
      | exact ih1 _ _ _ _
      | exact darninglaw8_awake.mono _
      | exact gap_Slot.mono _ _ _ _
      | exact LeO.none _
      | refine LeO.ite ?_ ?_
      | refine LeO.bind ?_ (fun _ => ?_)
    · intro y0 y1 y2 y3
      unfold darninglaw8_GapEach.l1
      repeat' first
      | (with_reducible exact ih0 _ _ _ _ _ _)
      | (with_reducible exact ih1 _ _ _ _)
      | (with_reducible exact darninglaw8_awake.mono _)
      | (with_reducible exact gap_Slot.mono _ _ _ _)
      | (with_reducible exact LeO.refl _)
      | (with_reducible exact LeO.none _)
      | (with_reducible refine LeO.ite ?_ ?_)
      | (with_reducible refine LeO.bind ?_ (fun _ => ?_))
      | exact ih0 _ _ _ _ _ _
      | exact ih1 _ _ _ _
      | exact darninglaw8_awake.mono _
      | exact gap_Slot.mono _ _ _ _
      | exact LeO.none _
      | refine LeO.ite ?_ ?_
      | refine LeO.bind ?_ (fun _ => ?_)
theorem darninglaw8_GapEach.mono : ∀ a0 a1 a2 k, LeO (darninglaw8_GapEach.f k a0 a1 a2) (darninglaw8_GapEach.f (k + 1) a0 a1 a2) := by
  intro a0 a1 a2 k
  obtain ⟨ih0, ih1⟩ := darninglaw8_GapEach.mono_l k
  unfold darninglaw8_GapEach.f
  repeat' first
      | (with_reducible exact ih0 _ _ _ _ _ _)
      | (with_reducible exact ih1 _ _ _ _)
      | (with_reducible exact darninglaw8_awake.mono _)
      | (with_reducible exact gap_Slot.mono _ _ _ _)
      | (with_reducible exact LeO.refl _)
      | (with_reducible exact LeO.none _)
      | (with_reducible refine LeO.ite ?_ ?_)
      | (with_reducible refine LeO.bind ?_ (fun _ => ?_))
      | exact ih0 _ _ _ _ _ _
      | exact ih1 _ _ _ _
      | exact darninglaw8_awake.mono _
      | exact gap_Slot.mono _ _ _ _
      | exact LeO.none _
      | refine LeO.ite ?_ ?_
      | refine LeO.bind ?_ (fun _ => ?_)
set_option maxHeartbeats 8000000 in
set_option maxRecDepth 100000 in
theorem darninglaw8_GapEach.calls (k : Nat) (a0 : Int) (a1 : Int) (a2 : Int) (r : Bool) (w : World) (h : darninglaw8_GapEach.f k a0 a1 a2 = some r) :
    Calls Try.prog 11 #[.int .i64 a0, .int .i64 a1, .int .i64 a2] w fun e w' => e = .returned (.bool r) ∧ Below w.heap.size w w' := by
  have HB := Aside0.mk (Below.refl w.heap.size w)
  have H : (if (IntKind.u64.wrap (wrap64 (1 + (wrap64 (Int.tmod (IntKind.u64.wrap (a0)) 15))))) = 0 then (none) else (if 0 ≤ (wrap64 ((wrap64 (1 + (wrap64 (Int.tmod (IntKind.u64.wrap (a0)) 15)))) + 1)) then (if (wrap64 ((wrap64 (1 + (wrap64 (Int.tmod (IntKind.u64.wrap (a0)) 15)))) + 1) : Int).toNat ≤ 35184372088832 then (darninglaw8_GapEach.l0 k (wrap64 (1 + (wrap64 (Int.tmod (IntKind.u64.wrap (a0)) 15)))) (wrap64 (Int.tmod (IntKind.u64.wrap (a1)) 10000)) (wrap64 (Int.tmod (IntKind.u64.wrap (a2)) (IntKind.u64.wrap (wrap64 (1 + (wrap64 (Int.tmod (IntKind.u64.wrap (a0)) 15))))))) (List.replicate (wrap64 ((wrap64 (1 + (wrap64 (Int.tmod (IntKind.u64.wrap (a0)) 15)))) + 1) : Int).toNat 0) (wrap64 ((wrap64 (1 + (wrap64 (Int.tmod (IntKind.u64.wrap (a0)) 15)))) * (wrap64 ((wrap64 (1 + (wrap64 (Int.tmod (IntKind.u64.wrap (a0)) 15)))) + 1)))) 0) else (none)) else (none))) = some r := h
  clear h
  by_cases c4 : (IntKind.u64.wrap (wrap64 (1 + (wrap64 (Int.tmod (IntKind.u64.wrap (a0)) 15))))) = 0
  · rw [if_pos c4] at H
    exact absurd H (by simp)
  · rw [if_neg c4] at H
    have c4b0 : ((IntKind.u64.wrap (wrap64 (1 + (wrap64 (Int.tmod (IntKind.u64.wrap (a0)) 15))))) == 0) = false := beq_eq_false_iff_ne.mpr c4
    have c4b1 : ((IntKind.u64.wrap (wrap64 (1 + (wrap64 (Int.tmod (IntKind.u64.wrap (a0)) 15))))) != 0) = true := bne_iff_ne.mpr c4
    obtain ⟨ji5, hji5⟩ : ∃ j_ : Int, (wrap64 ((wrap64 (1 + (wrap64 (Int.tmod (IntKind.u64.wrap (a0)) 15)))) + 1)) = j_ := ⟨_, rfl⟩
    replace H : (if 0 ≤ (ji5) then (if (ji5 : Int).toNat ≤ 35184372088832 then (darninglaw8_GapEach.l0 k (wrap64 (1 + (wrap64 (Int.tmod (IntKind.u64.wrap (a0)) 15)))) (wrap64 (Int.tmod (IntKind.u64.wrap (a1)) 10000)) (wrap64 (Int.tmod (IntKind.u64.wrap (a2)) (IntKind.u64.wrap (wrap64 (1 + (wrap64 (Int.tmod (IntKind.u64.wrap (a0)) 15))))))) (List.replicate (ji5 : Int).toNat 0) (wrap64 ((wrap64 (1 + (wrap64 (Int.tmod (IntKind.u64.wrap (a0)) 15)))) * (ji5))) 0) else (none)) else (none)) = some r := by first | (rw [hji5] at H; exact H) | (simp only [hji5] at H ⊢; exact H)
    have hji5w : (IntKind.i64.wrap ((wrap64 (1 + (wrap64 (Int.tmod (IntKind.u64.wrap (a0)) 15)))) + 1)) = ji5 := (i64_w _).trans hji5
    by_cases c6 : 0 ≤ (ji5)
    · rw [if_pos c6] at H
      have c6b0 := eq_true c6
      have c6b1 : decide (0 ≤ (ji5)) = true := decide_eq_true c6
      clear c6
      by_cases c7 : (ji5 : Int).toNat ≤ 35184372088832
      · rw [if_pos c7] at H
        have c7b0 := eq_true c7
        have c7b1 : decide ((ji5 : Int).toNat ≤ 35184372088832) = true := decide_eq_true c7
        clear c7
        obtain ⟨y116, hy116⟩ : ∃ y_ : List Int, y_ = (List.replicate (ji5 : Int).toNat 0) := ⟨_, rfl⟩
        replace H : (darninglaw8_GapEach.l0 k (wrap64 (1 + (wrap64 (Int.tmod (IntKind.u64.wrap (a0)) 15)))) (wrap64 (Int.tmod (IntKind.u64.wrap (a1)) 10000)) (wrap64 (Int.tmod (IntKind.u64.wrap (a2)) (IntKind.u64.wrap (wrap64 (1 + (wrap64 (Int.tmod (IntKind.u64.wrap (a0)) 15))))))) y116 (wrap64 ((wrap64 (1 + (wrap64 (Int.tmod (IntKind.u64.wrap (a0)) 15)))) * (ji5))) 0) = some r := by first | (rw [hy116]; with_reducible exact H) | (have H2_ := (Option.bind_some _ _).symm.trans H; rw [hy116]; with_reducible exact H2_) | (have H2_ := (Option.bind_some _ _).symm.trans H; with_reducible exact H2_) | with_reducible exact H | (rw [hy116]; exact H) | exact H
        have Ny116 := Aside0.mk hy116
        clear hy116
        have H' := Aside0.mk H
        clear H
        go_enter Try.func11, Try.ntmps11
        go_wp2_with (first | ((with_reducible refine gate_dst (N := 29) rfl ?_); refine Kd.R_make (Kd.int .i64) _ 3 rfl (N := 29) rfl 39 _ _ rfl ji5 rfl rfl Try.underlying39 (.int .i64 0) 8 info3 rfl (by decide) (by omega) 0 (ok := fun _ => True) (okp := fun _ => True) rfl (fun _ hk => hk) trivial (of_decide_eq_true (by first | (with_reducible assumption) | assumption)) (Nat.le_trans (Nat.mul_le_mul_right _ (of_decide_eq_true (by first | (with_reducible assumption) | assumption) : ji5.toNat ≤ 35184372088832)) (by omega)) (Below.refl _ _) (Nat.le_refl _) ?_; intro v117 w8 ho9 hb hg_ hnew_; clear hg_ hnew_; (first | rw [← Ny116.out] at ho9 | (simp only [Int.reduceToNat] at ho9; rw [← Ny116.out] at ho9)); have n0_ := Aside0.mk (Kd.R_lower ho9 (below_size (by repeat (first | (with_reducible first | exact HB.out | apply below_alloc | apply pw_below_drewN | apply below_drew1) | exact HB.out)))); have n1_ := Aside0.mk (below_step (by repeat (first | (with_reducible first | exact HB.out | apply below_alloc | apply pw_below_drewN | apply below_drew1) | exact HB.out)) hb); clear HB; have HO118 := n0_; have HB := n1_; clear n0_ n1_; clear hb ho9))
        go_loopg [34] k (fun kq v34 w' => ∃ (x7_1 : List Int) (x34_1 : Int), v34 = .int .i64 x34_1 ∧ Aside0 (darninglaw8_GapEach.l0 kq (wrap64 (1 + (wrap64 (Int.tmod (IntKind.u64.wrap (a0)) 15)))) (wrap64 (Int.tmod (IntKind.u64.wrap (a1)) 10000)) (wrap64 (Int.tmod (IntKind.u64.wrap (a2)) (IntKind.u64.wrap (wrap64 (1 + (wrap64 (Int.tmod (IntKind.u64.wrap (a0)) 15))))))) x7_1 (wrap64 ((wrap64 (1 + (wrap64 (Int.tmod (IntKind.u64.wrap (a0)) 15)))) * (ji5))) x34_1 = some r) ∧ Aside0 (kq ≤ k) ∧ Aside0 (Kd.R (Kd.int .i64) 3 w' w.heap.size (fun _ => True) v117 x7_1) ∧ Aside0 (Below w.heap.size w w'))
        case atStart => exact ⟨(y116), (0), (by first | rfl | (simp; done) | (simp [*]; done)), H', ⟨Nat.le_refl _⟩, ⟨by (with_reducible repeat (first | apply Kd.R_alloc | apply Kd.R_drewN | apply Kd.R_drew)); exact HO118.out⟩, ⟨by repeat (first | (with_reducible first | exact HB.out | apply below_alloc | apply pw_below_drewN | apply below_drew1) | exact HB.out)⟩⟩
        case round =>
          clear H'
          try clear c1
          try clear p2
          try clear c4
          try clear c4b0
          try clear c4b1
          try clear c6
          try clear c6b0
          try clear c6b1
          try clear p6
          try clear c7
          try clear c7b0
          try clear c7b1
          obtain ⟨x7_1, x34_1, rfl, HA, HK1, HO_7, HB⟩ := hrel
          cases gk with
          | zero => exact absurd HA.out (by simp [darninglaw8_GapEach.l0])
          | succ k1 =>
            have H := HA.out
            clear HA
            simp only [darninglaw8_GapEach.l0] at H
            by_cases c10 : x34_1 < (wrap64 ((wrap64 (1 + (wrap64 (Int.tmod (IntKind.u64.wrap (a0)) 15)))) * (ji5)))
            · rw [if_pos c10] at H
              have c10b0 : decide (x34_1 < (wrap64 ((wrap64 (1 + (wrap64 (Int.tmod (IntKind.u64.wrap (a0)) 15)))) * (ji5)))) = true := decide_eq_true c10
              clear c10
              replace H := Option.bind_eq_some_iff.mp H
              obtain ⟨t119, A110, H⟩ := H
              replace H : (if t119 < 0 then (some false) else (if t119 > (wrap64 (1 + (wrap64 (Int.tmod (IntKind.u64.wrap (a0)) 15)))) then (some false) else (if 0 ≤ t119 then (if t119 < (x7_1.length : Int) then (darninglaw8_GapEach.l0 k1 (wrap64 (1 + (wrap64 (Int.tmod (IntKind.u64.wrap (a0)) 15)))) (wrap64 (Int.tmod (IntKind.u64.wrap (a1)) 10000)) (wrap64 (Int.tmod (IntKind.u64.wrap (a2)) (IntKind.u64.wrap (wrap64 (1 + (wrap64 (Int.tmod (IntKind.u64.wrap (a0)) 15))))))) (x7_1.set (t119 : Int).toNat (wrap64 ((rd x7_1 t119) + 1))) (wrap64 ((wrap64 (1 + (wrap64 (Int.tmod (IntKind.u64.wrap (a0)) 15)))) * (ji5))) (wrap64 (x34_1 + 1))) else (none)) else (none)))) = some r := H
              have A11 := Aside0.mk A110
              clear A110
              by_cases c12 : t119 < 0
              · rw [if_pos c12] at H
                have c12b0 : decide (t119 < 0) = true := decide_eq_true c12
                clear c12
                obtain rfl := Option.some.inj H
                go_wp2_with (first | ((with_reducible refine gate_callee (f := 26) rfl ?_); refine goesL_ (some 42) rfl rfl Try.func26 (by kernel_rfl) rfl #[.int .i64 (wrap64 (1 + (wrap64 (Int.tmod (IntKind.u64.wrap (a0)) 15)))), .int .i64 (wrap64 ((wrap64 (Int.tmod (IntKind.u64.wrap (a1)) 10000)) + x34_1)), .int .i64 (wrap64 (Int.tmod (IntKind.u64.wrap (a2)) (IntKind.u64.wrap (wrap64 (1 + (wrap64 (Int.tmod (IntKind.u64.wrap (a0)) 15)))))))] rfl (by (try simp only [List.map_toArray, List.map_cons, List.map_nil]); first | done | rfl | (simp only [List.length_drop, List.length_take]; rfl)) ?_; (with_reducible refine (gap_Slot.calls k1 (wrap64 (1 + (wrap64 (Int.tmod (IntKind.u64.wrap (a0)) 15)))) (wrap64 ((wrap64 (Int.tmod (IntKind.u64.wrap (a1)) 10000)) + x34_1)) (wrap64 (Int.tmod (IntKind.u64.wrap (a2)) (IntKind.u64.wrap (wrap64 (1 + (wrap64 (Int.tmod (IntKind.u64.wrap (a0)) 15))))))) t119 _ A11.out).mono ?_); rintro e w' ⟨rfl, ⟨nd, rfl⟩⟩; refine ⟨_, rfl, ?_⟩))
                go_ret
                exact ⟨by first | rfl | (simp [errW_none, errW_some] <;> rfl) | (simp only [← hji5]; first | rfl | (simp [errW_none, errW_some] <;> rfl)) | (simp [*, errW_none, errW_some] <;> rfl), by repeat (first | (with_reducible first | exact HB.out | apply below_alloc | apply pw_below_drewN | apply below_drew1) | exact HB.out)⟩
              · rw [if_neg c12] at H
                have c12b0 : decide (t119 < 0) = false := decide_eq_false c12
                clear c12
                by_cases c13 : t119 > (wrap64 (1 + (wrap64 (Int.tmod (IntKind.u64.wrap (a0)) 15))))
                · rw [if_pos c13] at H
                  have c13b0 : decide ((wrap64 (1 + (wrap64 (Int.tmod (IntKind.u64.wrap (a0)) 15)))) < t119) = true := decide_eq_true c13
                  clear c13
                  obtain rfl := Option.some.inj H
                  go_wp2_with (first | ((with_reducible refine gate_callee (f := 26) rfl ?_); refine goesL_ (some 42) rfl rfl Try.func26 (by kernel_rfl) rfl #[.int .i64 (wrap64 (1 + (wrap64 (Int.tmod (IntKind.u64.wrap (a0)) 15)))), .int .i64 (wrap64 ((wrap64 (Int.tmod (IntKind.u64.wrap (a1)) 10000)) + x34_1)), .int .i64 (wrap64 (Int.tmod (IntKind.u64.wrap (a2)) (IntKind.u64.wrap (wrap64 (1 + (wrap64 (Int.tmod (IntKind.u64.wrap (a0)) 15)))))))] rfl (by (try simp only [List.map_toArray, List.map_cons, List.map_nil]); first | done | rfl | (simp only [List.length_drop, List.length_take]; rfl)) ?_; (with_reducible refine (gap_Slot.calls k1 (wrap64 (1 + (wrap64 (Int.tmod (IntKind.u64.wrap (a0)) 15)))) (wrap64 ((wrap64 (Int.tmod (IntKind.u64.wrap (a1)) 10000)) + x34_1)) (wrap64 (Int.tmod (IntKind.u64.wrap (a2)) (IntKind.u64.wrap (wrap64 (1 + (wrap64 (Int.tmod (IntKind.u64.wrap (a0)) 15))))))) t119 _ A11.out).mono ?_); rintro e w' ⟨rfl, ⟨nd, rfl⟩⟩; refine ⟨_, rfl, ?_⟩))
                  go_ret
                  exact ⟨by first | rfl | (simp [errW_none, errW_some] <;> rfl) | (simp only [← hji5]; first | rfl | (simp [errW_none, errW_some] <;> rfl)) | (simp [*, errW_none, errW_some] <;> rfl), by repeat (first | (with_reducible first | exact HB.out | apply below_alloc | apply pw_below_drewN | apply below_drew1) | exact HB.out)⟩
                · rw [if_neg c13] at H
                  have c13b0 : decide ((wrap64 (1 + (wrap64 (Int.tmod (IntKind.u64.wrap (a0)) 15)))) < t119) = false := decide_eq_false c13
                  clear c13
                  by_cases c14 : 0 ≤ t119
                  · rw [if_pos c14] at H
                    have c14b0 : decide (0 ≤ t119) = true := decide_eq_true c14
                    clear c14
                    by_cases c15 : t119 < (x7_1.length : Int)
                    · rw [if_pos c15] at H
                      have c15b0 : decide (t119 < (x7_1.length : Int)) = true := decide_eq_true c15
                      clear c15
                      obtain ⟨y121, hy121⟩ : ∃ y_ : List Int, y_ = (x7_1.set (t119 : Int).toNat (wrap64 ((rd x7_1 t119) + 1))) := ⟨_, rfl⟩
                      replace H : (darninglaw8_GapEach.l0 k1 (wrap64 (1 + (wrap64 (Int.tmod (IntKind.u64.wrap (a0)) 15)))) (wrap64 (Int.tmod (IntKind.u64.wrap (a1)) 10000)) (wrap64 (Int.tmod (IntKind.u64.wrap (a2)) (IntKind.u64.wrap (wrap64 (1 + (wrap64 (Int.tmod (IntKind.u64.wrap (a0)) 15))))))) y121 (wrap64 ((wrap64 (1 + (wrap64 (Int.tmod (IntKind.u64.wrap (a0)) 15)))) * (ji5))) (wrap64 (x34_1 + 1))) = some r := by first | (rw [hy121]; with_reducible exact H) | (have H2_ := (Option.bind_some _ _).symm.trans H; rw [hy121]; with_reducible exact H2_) | (have H2_ := (Option.bind_some _ _).symm.trans H; with_reducible exact H2_) | with_reducible exact H | (rw [hy121]; exact H) | exact H
                      have Ny121 := Aside0.mk hy121
                      clear hy121
                      have H' := Aside0.mk H
                      clear H
                      go_wp2_with (first | ((with_reducible refine gate_callee (f := 26) rfl ?_); refine goesL_ (some 42) rfl rfl Try.func26 (by kernel_rfl) rfl #[.int .i64 (wrap64 (1 + (wrap64 (Int.tmod (IntKind.u64.wrap (a0)) 15)))), .int .i64 (wrap64 ((wrap64 (Int.tmod (IntKind.u64.wrap (a1)) 10000)) + x34_1)), .int .i64 (wrap64 (Int.tmod (IntKind.u64.wrap (a2)) (IntKind.u64.wrap (wrap64 (1 + (wrap64 (Int.tmod (IntKind.u64.wrap (a0)) 15)))))))] rfl (by (try simp only [List.map_toArray, List.map_cons, List.map_nil]); first | done | rfl | (simp only [List.length_drop, List.length_take]; rfl)) ?_; (with_reducible refine (gap_Slot.calls k1 (wrap64 (1 + (wrap64 (Int.tmod (IntKind.u64.wrap (a0)) 15)))) (wrap64 ((wrap64 (Int.tmod (IntKind.u64.wrap (a1)) 10000)) + x34_1)) (wrap64 (Int.tmod (IntKind.u64.wrap (a2)) (IntKind.u64.wrap (wrap64 (1 + (wrap64 (Int.tmod (IntKind.u64.wrap (a0)) 15))))))) t119 _ A11.out).mono ?_); rintro e w' ⟨rfl, ⟨nd, rfl⟩⟩; refine ⟨_, rfl, ?_⟩; (try (rw [drewN_self wr]; generalize hq_ : World.drewN wr _ = wr; have n0_ : Aside0 (Kd.R (Kd.int .i64) 3 wr w.heap.size (fun _ => True) v117 x7_1) := ⟨by rw [← hq_]; exact (by (with_reducible repeat (first | apply Kd.R_alloc | apply Kd.R_drewN | apply Kd.R_drew)); exact HO_7.out)⟩; have n1_ : Aside0 (Below w.heap.size w wr) := ⟨by rw [← hq_]; exact (by repeat (first | (with_reducible first | exact HB.out | apply below_alloc | apply pw_below_drewN | apply below_drew1) | exact HB.out))⟩; clear HO_7 HB hq_; have HO_7 := n0_; have HB := n1_; clear n0_ n1_)); obtain ⟨Ao17, co17, eo17⟩ := Kd.R_slice HO_7.out; subst eo17; have p120 : 0 ≤ (t119 : Int) := of_decide_eq_true (by first | (with_reducible assumption) | assumption); have q120 : t119 < (x7_1.length : Int) := of_decide_eq_true (by first | (with_reducible assumption) | assumption); obtain ⟨ad120, e120, hx120_0⟩ := Kd.at_int (Kd.R_reads' HO_7.out).2.2 t119 p120 q120; cases e120; replace p120 := eq_true p120; replace q120 := eq_true q120; have p16 : 0 ≤ (t119 : Int) := of_decide_eq_true (by first | (with_reducible assumption) | assumption); have q16 : (t119 : Int) < ((x7_1.length : Int) : Int) := of_decide_eq_true (by first | (with_reducible assumption) | assumption); obtain ⟨go16, co16, eo16, gb16, gl16, cl16, HG16⟩ := Kd.R_form HO_7.out (by omega); (first | cases eo16 | (injection eo16 with ea_ en_ ec_; (first | subst ea_ | (injection ea_ with ea_; subst ea_)); subst ec_; clear en_)); have GB16 := Aside0.mk gb16; have GG16 := Aside0.mk HG16; clear gb16 gl16 HG16; (first | simp only [add_plain] at hx120_0 | skip); obtain ⟨hx16_0, hf16_0⟩ := Kd.R_celln 0 HO_7.out (t119 : Int) p16 q16; replace p16 := eq_true p16; replace q16 := eq_true q16; obtain ⟨hy18_, hz18_⟩ := Kd.R_celln 0 HO_7.out (t119 : Int) (of_decide_eq_true (by first | (with_reducible assumption) | assumption)) (of_decide_eq_true (by first | (with_reducible assumption) | assumption)); have HP18 := Kd.R_putg HO_7.out (t119 : Int) (wrap64 ((rd x7_1 t119) + 1))) | ((with_reducible refine gate_store (t := 3) (p := 55) rfl ?_); refine store_event (t := 3) (p := 55) (v := ?vo_w19) (w1 := (wr.setCell ⟨go16, (t119 : Int).toNat, none⟩ (.int .i64 (wrap64 ((rd x7_1 t119) + 1))))) ?hg ?ho ?hn ?hr ?_; (case ho => rfl); (case hg => rfl); (case hn => rfl); (case hr => first | (go_simp; done) | (go_simp; rfl)); intro w19 hw; have hg : wr.grownBy w19 (some go16) := (by rw [hw]; exact HP18.2); have hp_ : Kd.R (Kd.int .i64) 3 w19 w.heap.size (fun _ => True) (.slice (some ⟨go16, 0, none⟩) x7_1.length co17) y121 := (by rw [hw, Ny121.out]; exact HP18.1); clear HP18; have n0_ := Aside0.mk (hp_); have n1_ := Aside0.mk ((by rw [hw]; exact below_set (HB.out) GB16.out : Below w.heap.size w w19)); clear HO_7; clear HB; have HO_7 := n0_; have HB := n1_; clear n0_ n1_; clear hg hw hp_))
                      go_roundg k1
                      case measure => have := HK1.out; omega
                      case rel => exact ⟨(y121), (wrap64 (x34_1 + 1)), (by first | rfl | (simp; done) | (simp [*]; done)), (by first | exact H' | ((try rw [hji5]); exact H')), ⟨by have := HK1.out; omega⟩, ⟨by (with_reducible repeat (first | apply Kd.R_alloc | apply Kd.R_drewN | apply Kd.R_drew)); exact HO_7.out⟩, ⟨by repeat (first | (with_reducible first | exact HB.out | apply below_alloc | apply pw_below_drewN | apply below_drew1) | exact HB.out)⟩⟩
                    · rw [if_neg c15] at H
                      exact absurd H (by simp)
                  · rw [if_neg c14] at H
                    exact absurd H (by simp)
            · rw [if_neg c10] at H
              have c10b0 : decide (x34_1 < (wrap64 ((wrap64 (1 + (wrap64 (Int.tmod (IntKind.u64.wrap (a0)) 15)))) * (ji5)))) = false := decide_eq_false c10
              clear c10
              have H' := Aside0.mk H
              clear H
              obtain ⟨Ao20, co20, eo20⟩ := Kd.R_slice HO_7.out
              subst eo20
              go_wp2
              go_loopg [59] k1 (fun kq v59 w' => ∃ (x59_2 : Int), v59 = .int .i64 x59_2 ∧ Aside0 (darninglaw8_GapEach.l1 kq (wrap64 (1 + (wrap64 (Int.tmod (IntKind.u64.wrap (a0)) 15)))) x7_1 (x7_1.length : Int) x59_2 = some r) ∧ Aside0 (kq ≤ k1) ∧ Aside0 (Kd.R (Kd.int .i64) 3 w' w.heap.size (fun _ => True) (.slice Ao20 x7_1.length co20) x7_1) ∧ Aside0 (Below w.heap.size w w'))
              case atStart => exact ⟨(0), (by first | rfl | (simp; done) | (simp [*]; done)), H', ⟨Nat.le_refl _⟩, ⟨by (with_reducible repeat (first | apply Kd.R_alloc | apply Kd.R_drewN | apply Kd.R_drew)); exact HO_7.out⟩, ⟨by repeat (first | (with_reducible first | exact HB.out | apply below_alloc | apply pw_below_drewN | apply below_drew1) | exact HB.out)⟩⟩
              case round =>
                clear H'
                try clear c1
                try clear p1
                try clear q1
                try clear hx1
                try clear c2
                try clear p2
                try clear c4
                try clear c4b0
                try clear c4b1
                try clear c6
                try clear c6b0
                try clear c6b1
                try clear p6
                try clear c7
                try clear c7b0
                try clear c7b1
                try clear c10
                try clear c10b0
                try clear c11
                try clear c12
                try clear c12b0
                try clear p12
                try clear q12
                try clear hx12
                try clear c13
                try clear c13b0
                try clear c14
                try clear c14b0
                try clear c15
                try clear c15b0
                try clear p16
                try clear q16
                try clear hx16
                try clear hf16
                try clear hx120_0
                try clear hx16_0
                try clear p120
                try clear p16
                try clear p2
                try clear p6
                try clear q120
                try clear q16
                obtain ⟨x59_2, rfl, HA, HK2, HO_57, HB⟩ := hrel
                cases gk with
                | zero => exact absurd HA.out (by simp [darninglaw8_GapEach.l1])
                | succ k2 =>
                  have H := HA.out
                  clear HA
                  simp only [darninglaw8_GapEach.l1] at H
                  by_cases c21 : x59_2 < (x7_1.length : Int)
                  · rw [if_pos c21] at H
                    have c21b0 : decide (x59_2 < (x7_1.length : Int)) = true := decide_eq_true c21
                    clear c21
                    by_cases c22 : 0 ≤ x59_2
                    · rw [if_pos c22] at H
                      have c22b0 : decide (0 ≤ x59_2) = true := decide_eq_true c22
                      clear c22
                      by_cases c23 : x59_2 < (x7_1.length : Int)
                      · rw [if_pos c23] at H
                        have c23b0 : decide (x59_2 < (x7_1.length : Int)) = true := decide_eq_true c23
                        clear c23
                        by_cases c24 : (rd x7_1 x59_2) < 1
                        · rw [if_pos c24] at H
                          have c24b0 : decide ((rd x7_1 x59_2) < 1) = true := decide_eq_true c24
                          clear c24
                          obtain rfl := Option.some.inj H
                          have p122 : 0 ≤ (x59_2 : Int) := of_decide_eq_true (by first | (with_reducible assumption) | assumption)
                          have q122 : x59_2 < (x7_1.length : Int) := of_decide_eq_true (by first | (with_reducible assumption) | assumption)
                          obtain ⟨ad122, e122, hx122_0⟩ := Kd.at_int (Kd.R_reads' HO_57.out).2.2 x59_2 p122 q122
                          cases e122
                          replace p122 := eq_true p122
                          replace q122 := eq_true q122
                          go_wp2
                          go_ret
                          exact ⟨by first | rfl | (simp [errW_none, errW_some] <;> rfl) | (simp only [← hji5]; first | rfl | (simp [errW_none, errW_some] <;> rfl)) | (simp [*, errW_none, errW_some] <;> rfl), by repeat (first | (with_reducible first | exact HB.out | apply below_alloc | apply pw_below_drewN | apply below_drew1) | exact HB.out)⟩
                        · rw [if_neg c24] at H
                          have c24b0 : decide ((rd x7_1 x59_2) < 1) = false := decide_eq_false c24
                          clear c24
                          by_cases c25 : (rd x7_1 x59_2) > (wrap64 ((wrap64 (1 + (wrap64 (Int.tmod (IntKind.u64.wrap (a0)) 15)))) + 1))
                          · rw [if_pos c25] at H
                            have c25b0 : decide ((wrap64 ((wrap64 (1 + (wrap64 (Int.tmod (IntKind.u64.wrap (a0)) 15)))) + 1)) < (rd x7_1 x59_2)) = true := decide_eq_true c25
                            clear c25
                            (try rw [hji5] at c25b0)
                            obtain rfl := Option.some.inj H
                            have p122 : 0 ≤ (x59_2 : Int) := of_decide_eq_true (by first | (with_reducible assumption) | assumption)
                            have q122 : x59_2 < (x7_1.length : Int) := of_decide_eq_true (by first | (with_reducible assumption) | assumption)
                            obtain ⟨ad122, e122, hx122_0⟩ := Kd.at_int (Kd.R_reads' HO_57.out).2.2 x59_2 p122 q122
                            cases e122
                            replace p122 := eq_true p122
                            replace q122 := eq_true q122
                            go_wp2
                            go_ret
                            exact ⟨by first | rfl | (simp [errW_none, errW_some] <;> rfl) | (simp only [← hji5]; first | rfl | (simp [errW_none, errW_some] <;> rfl)) | (simp [*, errW_none, errW_some] <;> rfl), by repeat (first | (with_reducible first | exact HB.out | apply below_alloc | apply pw_below_drewN | apply below_drew1) | exact HB.out)⟩
                          · rw [if_neg c25] at H
                            have c25b0 : decide ((wrap64 ((wrap64 (1 + (wrap64 (Int.tmod (IntKind.u64.wrap (a0)) 15)))) + 1)) < (rd x7_1 x59_2)) = false := decide_eq_false c25
                            clear c25
                            (try rw [hji5] at c25b0)
                            have H' := Aside0.mk H
                            clear H
                            have p122 : 0 ≤ (x59_2 : Int) := of_decide_eq_true (by first | (with_reducible assumption) | assumption)
                            have q122 : x59_2 < (x7_1.length : Int) := of_decide_eq_true (by first | (with_reducible assumption) | assumption)
                            obtain ⟨ad122, e122, hx122_0⟩ := Kd.at_int (Kd.R_reads' HO_57.out).2.2 x59_2 p122 q122
                            cases e122
                            replace p122 := eq_true p122
                            replace q122 := eq_true q122
                            go_wp2
                            go_roundg k2
                            case measure => have := HK1.out; have := HK2.out; omega
                            case rel => exact ⟨(wrap64 (x59_2 + 1)), (by first | rfl | (simp; done) | (simp [*]; done)), (by first | exact H' | ((try rw [hji5]); exact H')), ⟨by have := HK1.out; have := HK2.out; omega⟩, ⟨by (with_reducible repeat (first | apply Kd.R_alloc | apply Kd.R_drewN | apply Kd.R_drew)); exact HO_57.out⟩, ⟨by repeat (first | (with_reducible first | exact HB.out | apply below_alloc | apply pw_below_drewN | apply below_drew1) | exact HB.out)⟩⟩
                      · rw [if_neg c23] at H
                        exact absurd H (by simp)
                    · rw [if_neg c22] at H
                      exact absurd H (by simp)
                  · rw [if_neg c21] at H
                    have c21b0 : decide (x59_2 < (x7_1.length : Int)) = false := decide_eq_false c21
                    clear c21
                    replace H := Option.bind_eq_some_iff.mp H
                    obtain ⟨t123, A260, H⟩ := H
                    replace H : (some t123) = some r := H
                    have A26 := Aside0.mk A260
                    clear A260
                    obtain rfl := Option.some.inj H
                    go_wp2_with (first | ((with_reducible refine gate_callee (f := 30) rfl ?_); refine goesL_ (some 72) rfl rfl Try.func30 (by kernel_rfl) rfl #[] rfl (by (try simp only [List.map_toArray, List.map_cons, List.map_nil]); first | done | rfl | (simp only [List.length_drop, List.length_take]; rfl)) ?_; (with_reducible refine (darninglaw8_awake.calls k2  t123 _ A26.out).mono ?_); rintro e w' ⟨rfl, ⟨nd, rfl⟩⟩; refine ⟨_, rfl, ?_⟩))
                    go_ret
                    exact ⟨by first | rfl | (simp [errW_none, errW_some] <;> rfl) | (simp only [← hji5]; first | rfl | (simp [errW_none, errW_some] <;> rfl)) | (simp [*, errW_none, errW_some] <;> rfl), by repeat (first | (with_reducible first | exact HB.out | apply below_alloc | apply pw_below_drewN | apply below_drew1) | exact HB.out)⟩
      · rw [if_neg c7] at H
        exact absurd H (by simp)
    · rw [if_neg c6] at H
      exact absurd H (by simp)

/-- THE ONE PURE STATEMENT of darninglaw8_GapEach: yours. -/
def darninglaw8_GapEach.Pure : Prop := ∀ (a0 : Int) (a1 : Int) (a2 : Int), (Lit.int .i64 a0).wf = true → (Lit.int .i64 a1).wf = true → (Lit.int .i64 a2).wf = true → ∃ k, darninglaw8_GapEach.f k a0 a1 a2 = some true
theorem darninglaw8_GapEach.walk (P : darninglaw8_GapEach.Pure) (a0 : Int) (a1 : Int) (a2 : Int) (w : World) (w0 : (Lit.int .i64 a0).wf = true) (w1 : (Lit.int .i64 a1).wf = true) (w2 : (Lit.int .i64 a2).wf = true) :
    Calls Try.prog 11 #[.int .i64 a0, .int .i64 a1, .int .i64 a2] w fun e w' => e = .returned (.bool true) ∧ Below w.heap.size w w' := by
  obtain ⟨k, h⟩ := P a0 a1 a2 w0 w1 w2
  refine (darninglaw8_GapEach.calls k a0 a1 a2 true w h).mono ?_
  rintro e w' ⟨rfl, hd⟩
  exact ⟨rfl, hd⟩

end Go.Proofs.Ytjmlbkbjmeeplaa.XGapEach
