-- Laid by this session's own printer (wip/xprint.py): each Go function that the law reaches as a plain Lean function, and that the call comes to it.
import Derived.Test.YtglekonhdjploaaXCarveCountsx0
import Derived.Test.YtglekonhdjploaaXCarveCountsx1
import Derived.Test.YtglekonhdjploaaXCarveCountsx3
namespace Go.Proofs.Ytglekonhdjploaa.XCarveCounts
open Go.RowKit Go.Proofs.YtglekonhdjploaaW.PrintWords Go.Proofs.YtglekonhdjploaaW.PrintLast Go.Proofs.YtglekonhdjploaaW.PrintMore
attribute [local go_sem] max2_int min2_int max_two min_two max_three min_three max_four min_four   -- for this text's walks alone
set_option linter.unusedVariables false
set_option linter.unusedSimpArgs false

/-! ### darninglaw16_awake: function 22 -/
def darninglaw16_awake.f (k : Nat)  : Option (Bool) := (some (([(⟨0, 8, false⟩ : S35)] : List (S35)) : List (S35))).bind fun y172 => ((carve_Blocks.f k y172 0 3).bind fun bt175 => ((carve_Edits.f k y172 0 3).bind fun t179 => (if bt175.2 = true then (if (bt175.1.length : Int) = 2 then (if 0 < (bt175.1.length : Int) then (if (rd_T35 bt175.1 0).f2 = true then (if ((rd_T35 bt175.1 0).f1) = 3 then (if 1 < (bt175.1.length : Int) then (if ((rd_T35 bt175.1 1).f0) = 3 then (if (t179.length : Int) = 4 then (if 0 < (t179.length : Int) then (if ((rd_T30 t179 0).f1) = 7 then (if 3 < (t179.length : Int) then (if ((rd_T30 t179 3).f1) = 10 then ((carve_Off.f ((rd_T35 bt175.1 0).f0) ((rd_T35 bt175.1 0).f1) ((rd_T35 bt175.1 0).f2)).bind fun t188 => (some (t188 == 8))) else (some false)) else (none)) else (some false)) else (none)) else (some false)) else (some false)) else (none)) else (some false)) else (some false)) else (none)) else (some false)) else (some false))))
theorem darninglaw16_awake.mono : ∀ k, LeO (darninglaw16_awake.f k ) (darninglaw16_awake.f (k + 1) ) := by
  intro  k
  unfold darninglaw16_awake.f
  repeat' first
      | (with_reducible exact carve_Blocks.mono _ _ _ _)
      | (with_reducible exact carve_Edits.mono _ _ _ _)
      | (with_reducible exact LeO.refl _)
      | (with_reducible exact LeO.none _)
      | (with_reducible refine LeO.ite ?_ ?_)
      | (with_reducible refine LeO.bind ?_ (fun _ => ?_))
      | exact carve_Blocks.mono _ _ _ _
      | exact carve_Edits.mono _ _ _ _
      | exact LeO.none _
      | refine LeO.ite ?_ ?_
      | refine LeO.bind ?_ (fun _ => ?_)
set_option maxHeartbeats 8000000 in
set_option maxRecDepth 100000 in
theorem darninglaw16_awake.calls (k : Nat)  (r : Bool) (w : World) (h : darninglaw16_awake.f k  = some r) :
    Calls Try.prog 22 #[] w fun e w' => e = .returned (.bool r) ∧ Below w.heap.size w w' := by
  have hu35 := Try.underlying35
  have HB := Aside0.mk (Below.refl w.heap.size w)
  have H : ((some (([(⟨0, 8, false⟩ : S35)] : List (S35)) : List (S35))).bind fun y172 => ((carve_Blocks.f k y172 0 3).bind fun bt175 => ((carve_Edits.f k y172 0 3).bind fun t179 => (if bt175.2 = true then (if (bt175.1.length : Int) = 2 then (if 0 < (bt175.1.length : Int) then (if (rd_T35 bt175.1 0).f2 = true then (if ((rd_T35 bt175.1 0).f1) = 3 then (if 1 < (bt175.1.length : Int) then (if ((rd_T35 bt175.1 1).f0) = 3 then (if (t179.length : Int) = 4 then (if 0 < (t179.length : Int) then (if ((rd_T30 t179 0).f1) = 7 then (if 3 < (t179.length : Int) then (if ((rd_T30 t179 3).f1) = 10 then ((carve_Off.f ((rd_T35 bt175.1 0).f0) ((rd_T35 bt175.1 0).f1) ((rd_T35 bt175.1 0).f2)).bind fun t188 => (some (t188 == 8))) else (some false)) else (none)) else (some false)) else (none)) else (some false)) else (some false)) else (none)) else (some false)) else (some false)) else (none)) else (some false)) else (some false))))) = some r := h
  clear h
  obtain ⟨y172, hy172⟩ : ∃ y_ : List (S35), y_ = (([(⟨0, 8, false⟩ : S35)] : List (S35))) := ⟨_, rfl⟩
  replace H : ((carve_Blocks.f k y172 0 3).bind fun bt175 => ((carve_Edits.f k y172 0 3).bind fun t179 => (if bt175.2 = true then (if (bt175.1.length : Int) = 2 then (if 0 < (bt175.1.length : Int) then (if (rd_T35 bt175.1 0).f2 = true then (if ((rd_T35 bt175.1 0).f1) = 3 then (if 1 < (bt175.1.length : Int) then (if ((rd_T35 bt175.1 1).f0) = 3 then (if (t179.length : Int) = 4 then (if 0 < (t179.length : Int) then (if ((rd_T30 t179 0).f1) = 7 then (if 3 < (t179.length : Int) then (if ((rd_T30 t179 3).f1) = 10 then ((carve_Off.f ((rd_T35 bt175.1 0).f0) ((rd_T35 bt175.1 0).f1) ((rd_T35 bt175.1 0).f2)).bind fun t188 => (some (t188 == 8))) else (some false)) else (none)) else (some false)) else (none)) else (some false)) else (some false)) else (none)) else (some false)) else (some false)) else (none)) else (some false)) else (some false)))) = some r := by first | (rw [hy172]; with_reducible exact H) | (have H2_ := (Option.bind_some _ _).symm.trans H; rw [hy172]; with_reducible exact H2_) | (have H2_ := (Option.bind_some _ _).symm.trans H; with_reducible exact H2_) | with_reducible exact H | (rw [hy172]; exact H) | exact H
  have Ny172 := Aside0.mk hy172
  clear hy172
  replace H := Option.bind_eq_some_iff.mp H
  obtain ⟨⟨t175, t178⟩, A10, H⟩ := H
  replace H : ((carve_Edits.f k y172 0 3).bind fun t179 => (if t178 = true then (if (t175.length : Int) = 2 then (if 0 < (t175.length : Int) then (if (rd_T35 t175 0).f2 = true then (if ((rd_T35 t175 0).f1) = 3 then (if 1 < (t175.length : Int) then (if ((rd_T35 t175 1).f0) = 3 then (if (t179.length : Int) = 4 then (if 0 < (t179.length : Int) then (if ((rd_T30 t179 0).f1) = 7 then (if 3 < (t179.length : Int) then (if ((rd_T30 t179 3).f1) = 10 then ((carve_Off.f ((rd_T35 t175 0).f0) ((rd_T35 t175 0).f1) ((rd_T35 t175 0).f2)).bind fun t188 => (some (t188 == 8))) else (some false)) else (none)) else (some false)) else (none)) else (some false)) else (some false)) else (none)) else (some false)) else (some false)) else (none)) else (some false)) else (some false))) = some r := H
  have A1 := Aside0.mk A10
  clear A10
  replace H := Option.bind_eq_some_iff.mp H
  obtain ⟨t179, A20, H⟩ := H
  replace H : (if t178 = true then (if (t175.length : Int) = 2 then (if 0 < (t175.length : Int) then (if (rd_T35 t175 0).f2 = true then (if ((rd_T35 t175 0).f1) = 3 then (if 1 < (t175.length : Int) then (if ((rd_T35 t175 1).f0) = 3 then (if (t179.length : Int) = 4 then (if 0 < (t179.length : Int) then (if ((rd_T30 t179 0).f1) = 7 then (if 3 < (t179.length : Int) then (if ((rd_T30 t179 3).f1) = 10 then ((carve_Off.f ((rd_T35 t175 0).f0) ((rd_T35 t175 0).f1) ((rd_T35 t175 0).f2)).bind fun t188 => (some (t188 == 8))) else (some false)) else (none)) else (some false)) else (none)) else (some false)) else (some false)) else (none)) else (some false)) else (some false)) else (none)) else (some false)) else (some false)) = some r := H
  have A2 := Aside0.mk A20
  clear A20
  by_cases c3 : t178 = true
  · subst c3
    have H1 : (if (t175.length : Int) = 2 then (if 0 < (t175.length : Int) then (if (rd_T35 t175 0).f2 = true then (if ((rd_T35 t175 0).f1) = 3 then (if 1 < (t175.length : Int) then (if ((rd_T35 t175 1).f0) = 3 then (if (t179.length : Int) = 4 then (if 0 < (t179.length : Int) then (if ((rd_T30 t179 0).f1) = 7 then (if 3 < (t179.length : Int) then (if ((rd_T30 t179 3).f1) = 10 then ((carve_Off.f ((rd_T35 t175 0).f0) ((rd_T35 t175 0).f1) ((rd_T35 t175 0).f2)).bind fun t188 => (some (t188 == 8))) else (some false)) else (none)) else (some false)) else (none)) else (some false)) else (some false)) else (none)) else (some false)) else (some false)) else (none)) else (some false)) = some r := by rw [if_pos rfl] at H; exact H
    clear H
    have H := H1
    clear H1
    by_cases c4 : (t175.length : Int) = 2
    · rw [if_pos c4] at H
      have c4b0 : ((t175.length : Int) == 2) = true := beq_iff_eq.mpr c4
      have c4b1 : ((t175.length : Int) != 2) = false := bne_eq_false_iff_eq.mpr c4
      clear c4
      by_cases c5 : 0 < (t175.length : Int)
      · rw [if_pos c5] at H
        have c5b0 : decide (0 < (t175.length : Int)) = true := decide_eq_true c5
        have c5b1 : decide (0 < t175.length) = true := decide_eq_true (by omega)
        clear c5
        obtain ⟨bq6, hbq6⟩ : ∃ b_ : Bool, b_ = ((rd_T35 t175 0).f2) := ⟨_, rfl⟩
        replace H : (if bq6 = true then (if ((rd_T35 t175 0).f1) = 3 then (if 1 < (t175.length : Int) then (if ((rd_T35 t175 1).f0) = 3 then (if (t179.length : Int) = 4 then (if 0 < (t179.length : Int) then (if ((rd_T30 t179 0).f1) = 7 then (if 3 < (t179.length : Int) then (if ((rd_T30 t179 3).f1) = 10 then ((carve_Off.f ((rd_T35 t175 0).f0) ((rd_T35 t175 0).f1) bq6).bind fun t188 => (some (t188 == 8))) else (some false)) else (none)) else (some false)) else (none)) else (some false)) else (some false)) else (none)) else (some false)) else (some false)) = some r := by first | exact H | (rw [← hbq6] at H; exact H)
        have Nbq6 := Aside0.mk hbq6
        clear hbq6
        (try rw [← Nbq6.out])
        by_cases c7 : bq6 = true
        · subst c7
          have H1 : (if ((rd_T35 t175 0).f1) = 3 then (if 1 < (t175.length : Int) then (if ((rd_T35 t175 1).f0) = 3 then (if (t179.length : Int) = 4 then (if 0 < (t179.length : Int) then (if ((rd_T30 t179 0).f1) = 7 then (if 3 < (t179.length : Int) then (if ((rd_T30 t179 3).f1) = 10 then ((carve_Off.f ((rd_T35 t175 0).f0) ((rd_T35 t175 0).f1) true).bind fun t188 => (some (t188 == 8))) else (some false)) else (none)) else (some false)) else (none)) else (some false)) else (some false)) else (none)) else (some false)) = some r := by rw [if_pos rfl] at H; exact H
          clear H
          have H := H1
          clear H1
          by_cases c8 : ((rd_T35 t175 0).f1) = 3
          · rw [if_pos c8] at H
            have c8b0 : (((rd_T35 t175 0).f1) == 3) = true := beq_iff_eq.mpr c8
            have c8b1 : (((rd_T35 t175 0).f1) != 3) = false := bne_eq_false_iff_eq.mpr c8
            clear c8
            by_cases c9 : 1 < (t175.length : Int)
            · rw [if_pos c9] at H
              have c9b0 : decide (1 < (t175.length : Int)) = true := decide_eq_true c9
              have c9b1 : decide (1 < t175.length) = true := decide_eq_true (by omega)
              clear c9
              by_cases c10 : ((rd_T35 t175 1).f0) = 3
              · rw [if_pos c10] at H
                have c10b0 : (((rd_T35 t175 1).f0) == 3) = true := beq_iff_eq.mpr c10
                have c10b1 : (((rd_T35 t175 1).f0) != 3) = false := bne_eq_false_iff_eq.mpr c10
                clear c10
                by_cases c11 : (t179.length : Int) = 4
                · rw [if_pos c11] at H
                  have c11b0 : ((t179.length : Int) == 4) = true := beq_iff_eq.mpr c11
                  have c11b1 : ((t179.length : Int) != 4) = false := bne_eq_false_iff_eq.mpr c11
                  clear c11
                  by_cases c12 : 0 < (t179.length : Int)
                  · rw [if_pos c12] at H
                    have c12b0 : decide (0 < (t179.length : Int)) = true := decide_eq_true c12
                    have c12b1 : decide (0 < t179.length) = true := decide_eq_true (by omega)
                    clear c12
                    by_cases c13 : ((rd_T30 t179 0).f1) = 7
                    · rw [if_pos c13] at H
                      have c13b0 : (((rd_T30 t179 0).f1) == 7) = true := beq_iff_eq.mpr c13
                      have c13b1 : (((rd_T30 t179 0).f1) != 7) = false := bne_eq_false_iff_eq.mpr c13
                      clear c13
                      by_cases c14 : 3 < (t179.length : Int)
                      · rw [if_pos c14] at H
                        have c14b0 : decide (3 < (t179.length : Int)) = true := decide_eq_true c14
                        have c14b1 : decide (3 < t179.length) = true := decide_eq_true (by omega)
                        clear c14
                        by_cases c15 : ((rd_T30 t179 3).f1) = 10
                        · rw [if_pos c15] at H
                          have c15b0 : (((rd_T30 t179 3).f1) == 10) = true := beq_iff_eq.mpr c15
                          have c15b1 : (((rd_T30 t179 3).f1) != 10) = false := bne_eq_false_iff_eq.mpr c15
                          clear c15
                          replace H := Option.bind_eq_some_iff.mp H
                          obtain ⟨t188, A160, H⟩ := H
                          replace H : (some (t188 == 8)) = some r := H
                          have A16 := Aside0.mk A160
                          clear A160
                          obtain rfl := Option.some.inj H
                          go_enter Try.func22, Try.ntmps22
                          go_wp2_with (first | ((with_reducible refine gate_dst (N := 6) rfl ?_); (try (refine gate_guard (by rfl) ?_; dsimp only)); refine Kd.R_lit k35 _ 35 ?hg (N := 6) ?hd (xs := ([(⟨0, 8, false⟩ : S35)] : List (S35))) (inner := [.int .i64 0, .int .i64 8, .bool false]) (ok := fun _ => True) (okp := fun _ => True) ?hr ?hp (fun _ hk => hk) trivial (Below.refl _ _) (Nat.le_refl _) (by simp) ?_; (case hd => rfl); (case hg => rfl); (case hr => first | (go_simp; done) | (go_simp; rfl)); (case hp => exact (Reps.c3 (show Kd.M k35 _ _ _ (⟨0, 8, false⟩ : S35) [.int .i64 0, .int .i64 8, .bool false] from (k35_mkM _ _ _ (⟨0, 8, false⟩ : S35) )) (Reps.none _ _))); intro v173 w17 ho18 hb hg_ hnew_; clear hg_ hnew_; (first | rw [← Ny172.out] at ho18 | (simp only [Int.reduceToNat] at ho18; rw [← Ny172.out] at ho18)); have n0_ := Aside0.mk (Kd.R_lower ho18 (below_size (by repeat (first | (with_reducible first | exact HB.out | apply below_alloc | apply pw_below_drewN | apply below_drew1) | exact HB.out)))); have n1_ := Aside0.mk (below_step (by repeat (first | (with_reducible first | exact HB.out | apply below_alloc | apply pw_below_drewN | apply below_drew1) | exact HB.out)) hb); clear HB; have HO174 := n0_; have HB := n1_; clear n0_ n1_; clear hb ho18; obtain ⟨Ao19, co19, eo19⟩ := Kd.R_slice HO174.out; subst eo19) | ((with_reducible refine gate_callee (f := 23) rfl ?_); refine goesL_ (some 9) rfl rfl Try.func23 (by kernel_rfl) rfl #[.slice Ao19 y172.length co19, .int .i64 0, .int .i64 3] rfl (by (try simp only [List.map_toArray, List.map_cons, List.map_nil]); first | done | rfl | (simp only [List.length_drop, List.length_take]; rfl)) ?_; (with_reducible refine (carve_Blocks.calls k (fun k_ => some k_ = (.slice Ao19 y172.length co19 : Value).ownBlock) _ _ y172 0 3 t175 true _ ?side1 A1.out).mono ?_); (case side1 => exact Kd.R_V (Kd.R_tight rfl (HO174.out))); rintro e w20 ⟨v176, rfl, ho0, hb⟩; refine ⟨_, rfl, ?_⟩; have n0_ := Aside0.mk (Kd.R_elder' (by (with_reducible repeat (first | apply Kd.R_alloc | apply Kd.R_drewN | apply Kd.R_drew)); exact HO174.out) (Kd.R_base ho0) hb); have n1_ := Aside0.mk (Kd.R_lower (Kd.R_new' (Kd.R_mono (ok' := fun k_ => True) ho0 (fun _ hk_ => trivial)) (Kd.R_lt (by (with_reducible repeat (first | apply Kd.R_alloc | apply Kd.R_drewN | apply Kd.R_drew)); exact HO174.out))) (below_size (by repeat (first | (with_reducible first | exact HB.out | apply below_alloc | apply pw_below_drewN | apply below_drew1) | exact HB.out)))); have n2_ := Aside0.mk (below_step (by repeat (first | (with_reducible first | exact HB.out | apply below_alloc | apply pw_below_drewN | apply below_drew1) | exact HB.out)) hb); clear HO174; clear HB; have HO174 := n0_; have HO177 := n1_; have HB := n2_; clear n0_ n1_ n2_; (try clear hb); (try clear hb2); (try clear hk); (try clear hi); (try clear ho0)) | ((with_reducible refine gate_callee (f := 26) rfl ?_); refine goesL_ (some 13) rfl rfl Try.func26 (by kernel_rfl) rfl #[.slice Ao19 y172.length co19, .int .i64 0, .int .i64 3] rfl (by (try simp only [List.map_toArray, List.map_cons, List.map_nil]); first | done | rfl | (simp only [List.length_drop, List.length_take]; rfl)) ?_; (with_reducible refine (carve_Edits.calls k _ _ y172 0 3 t179 _ ?side1 ?side2 A2.out).mono ?_); (case side1 => repeat (first | exact (Kd.R_reads' HO174.out).2.2 | (with_reducible refine Kd.C_alloc ?_ _) | (with_reducible refine Kd.C_drewN ?_ _) | (with_reducible refine Kd.C_drew ?_))); (case side2 => exact (Kd.R_reads' HO174.out).2.1); rintro e w21 ⟨v180, rfl, ho0, hb⟩; refine ⟨_, rfl, ?_⟩; have n0_ := Aside0.mk (Kd.R_below (by (with_reducible repeat (first | apply Kd.R_alloc | apply Kd.R_drewN | apply Kd.R_drew)); exact HO174.out) hb); have n1_ := Aside0.mk (Kd.R_below (by (with_reducible repeat (first | apply Kd.R_alloc | apply Kd.R_drewN | apply Kd.R_drew)); exact HO177.out) hb); have n2_ := Aside0.mk (Kd.R_lower ho0 (below_size (by repeat (first | (with_reducible first | exact HB.out | apply below_alloc | apply pw_below_drewN | apply below_drew1) | exact HB.out)))); have n3_ := Aside0.mk (below_step (by repeat (first | (with_reducible first | exact HB.out | apply below_alloc | apply pw_below_drewN | apply below_drew1) | exact HB.out)) hb); clear HO174; clear HO177; clear HB; have HO174 := n0_; have HO177 := n1_; have HO181 := n2_; have HB := n3_; clear n0_ n1_ n2_ n3_; (try clear hb); (try clear hb2); (try clear hk); (try clear hi); (try clear ho0); obtain ⟨Ao22, co22, eo22⟩ := Kd.R_slice HO177.out; subst eo22; have p182 : 0 ≤ (0 : Int) := (by omega); have q182 : 0 < (t175.length : Int) := of_decide_eq_true (by first | (with_reducible assumption) | assumption); obtain ⟨ad182, e182, hx182_0, hx182_1, hx182_2⟩ := at_T35 (Kd.R_reads' HO177.out).2.2 0 p182 q182; (try rw [← Nbq6.out] at hx182_2); cases e182; have qi182 : (0 < t175.length) = True := eq_true (by omega); (try rw [show ((0 : Int)).toNat = 0 from rfl] at hx182_0); (try rw [show 0 * 3 = 0 from rfl] at hx182_0); (try rw [Addr.add_zero'] at hx182_0); (try rw [show ((0 : Int)).toNat = 0 from rfl] at hx182_1); (try rw [show 0 * 3 = 0 from rfl] at hx182_1); (try rw [Addr.add_zero'] at hx182_1); (try rw [show ((0 : Int)).toNat = 0 from rfl] at hx182_2); (try rw [show 0 * 3 = 0 from rfl] at hx182_2); (try rw [Addr.add_zero'] at hx182_2); replace p182 := eq_true p182; replace q182 := eq_true q182; have p183 : 0 ≤ (0 : Int) := (by omega); have q183 : 0 < (t175.length : Int) := of_decide_eq_true (by first | (with_reducible assumption) | assumption); obtain ⟨ad183, e183, hx183_0, hx183_1, hx183_2⟩ := at_T35 (Kd.R_reads' HO177.out).2.2 0 p183 q183; (try rw [← Nbq6.out] at hx183_2); obtain rfl : ad182 = ad183 := (by injection e183); have qi183 : (0 < t175.length) = True := eq_true (by omega); (try rw [show ((0 : Int)).toNat = 0 from rfl] at hx183_0); (try rw [show 0 * 3 = 0 from rfl] at hx183_0); (try rw [Addr.add_zero'] at hx183_0); (try rw [show ((0 : Int)).toNat = 0 from rfl] at hx183_1); (try rw [show 0 * 3 = 0 from rfl] at hx183_1); (try rw [Addr.add_zero'] at hx183_1); (try rw [show ((0 : Int)).toNat = 0 from rfl] at hx183_2); (try rw [show 0 * 3 = 0 from rfl] at hx183_2); (try rw [Addr.add_zero'] at hx183_2); replace p183 := eq_true p183; replace q183 := eq_true q183; have p184 : 0 ≤ (1 : Int) := (by omega); have q184 : 1 < (t175.length : Int) := of_decide_eq_true (by first | (with_reducible assumption) | assumption); obtain ⟨ad184, e184, hx184_0, hx184_1, hx184_2⟩ := at_T35 (Kd.R_reads' HO177.out).2.2 1 p184 q184; (try rw [← Nbq6.out] at hx184_2); obtain rfl : ad182 = ad184 := (by injection e184); (try simp only [show (1 : Int).toNat = 1 from rfl, Nat.reduceMul, Nat.reduceEqDiff, Go.Addr.add, ↓reduceIte] at hx184_0); (try simp only [show (1 : Int).toNat = 1 from rfl, Nat.reduceMul, Nat.reduceEqDiff, Go.Addr.add, ↓reduceIte] at hx184_1); (try simp only [show (1 : Int).toNat = 1 from rfl, Nat.reduceMul, Nat.reduceEqDiff, Go.Addr.add, ↓reduceIte] at hx184_2); have qi184 : (1 < t175.length) = True := eq_true (by omega); (try rw [show ((1 : Int)).toNat = 1 from rfl] at hx184_0); (try rw [show 1 * 3 = 3 from rfl] at hx184_0); (try rw [show ((1 : Int)).toNat = 1 from rfl] at hx184_1); (try rw [show 1 * 3 = 3 from rfl] at hx184_1); (try rw [show ((1 : Int)).toNat = 1 from rfl] at hx184_2); (try rw [show 1 * 3 = 3 from rfl] at hx184_2); replace p184 := eq_true p184; replace q184 := eq_true q184; obtain ⟨Ao23, co23, eo23⟩ := Kd.R_slice HO181.out; subst eo23; have p185 : 0 ≤ (0 : Int) := (by omega); have q185 : 0 < (t179.length : Int) := of_decide_eq_true (by first | (with_reducible assumption) | assumption); obtain ⟨ad185, e185, hx185_0, hx185_1⟩ := at_T30 (Kd.R_reads' HO181.out).2.2 0 p185 q185; cases e185; have qi185 : (0 < t179.length) = True := eq_true (by omega); (try rw [show ((0 : Int)).toNat = 0 from rfl] at hx185_0); (try rw [show 0 * 2 = 0 from rfl] at hx185_0); (try rw [Addr.add_zero'] at hx185_0); (try rw [show ((0 : Int)).toNat = 0 from rfl] at hx185_1); (try rw [show 0 * 2 = 0 from rfl] at hx185_1); (try rw [Addr.add_zero'] at hx185_1); replace p185 := eq_true p185; replace q185 := eq_true q185; have p186 : 0 ≤ (3 : Int) := (by omega); have q186 : 3 < (t179.length : Int) := of_decide_eq_true (by first | (with_reducible assumption) | assumption); obtain ⟨ad186, e186, hx186_0, hx186_1⟩ := at_T30 (Kd.R_reads' HO181.out).2.2 3 p186 q186; obtain rfl : ad185 = ad186 := (by injection e186); (try simp only [show (3 : Int).toNat = 3 from rfl, Nat.reduceMul, Nat.reduceEqDiff, Go.Addr.add, ↓reduceIte] at hx186_0); (try simp only [show (3 : Int).toNat = 3 from rfl, Nat.reduceMul, Nat.reduceEqDiff, Go.Addr.add, ↓reduceIte] at hx186_1); have qi186 : (3 < t179.length) = True := eq_true (by omega); (try rw [show ((3 : Int)).toNat = 3 from rfl] at hx186_0); (try rw [show 3 * 2 = 6 from rfl] at hx186_0); (try rw [show ((3 : Int)).toNat = 3 from rfl] at hx186_1); (try rw [show 3 * 2 = 6 from rfl] at hx186_1); replace p186 := eq_true p186; replace q186 := eq_true q186; have p187 : 0 ≤ (0 : Int) := (by omega); have q187 : 0 < (t175.length : Int) := of_decide_eq_true (by first | (with_reducible assumption) | assumption); obtain ⟨ad187, e187, hx187_0, hx187_1, hx187_2⟩ := at_T35 (Kd.R_reads' HO177.out).2.2 0 p187 q187; (try rw [← Nbq6.out] at hx187_2); obtain rfl : ad182 = ad187 := (by injection e187); have qi187 : (0 < t175.length) = True := eq_true (by omega); (try rw [show ((0 : Int)).toNat = 0 from rfl] at hx187_0); (try rw [show 0 * 3 = 0 from rfl] at hx187_0); (try rw [Addr.add_zero'] at hx187_0); (try rw [show ((0 : Int)).toNat = 0 from rfl] at hx187_1); (try rw [show 0 * 3 = 0 from rfl] at hx187_1); (try rw [Addr.add_zero'] at hx187_1); (try rw [show ((0 : Int)).toNat = 0 from rfl] at hx187_2); (try rw [show 0 * 3 = 0 from rfl] at hx187_2); (try rw [Addr.add_zero'] at hx187_2); replace p187 := eq_true p187; replace q187 := eq_true q187) | (go_at_call 28; (with_reducible refine (carve_Off.calls ((rd_T35 t175 0).f0) ((rd_T35 t175 0).f1) true t188 _ A16.out).mono ?_); rintro e w24 ⟨rfl, hb⟩; have n0_ := Aside0.mk (Kd.R_below (by (with_reducible repeat (first | apply Kd.R_alloc | apply Kd.R_drewN | apply Kd.R_drew)); exact HO174.out) hb); have n1_ := Aside0.mk (Kd.R_below (by (with_reducible repeat (first | apply Kd.R_alloc | apply Kd.R_drewN | apply Kd.R_drew)); exact HO177.out) hb); have n2_ := Aside0.mk (Kd.R_below (by (with_reducible repeat (first | apply Kd.R_alloc | apply Kd.R_drewN | apply Kd.R_drew)); exact HO181.out) hb); have n3_ := Aside0.mk (below_step (by repeat (first | (with_reducible first | exact HB.out | apply below_alloc | apply pw_below_drewN | apply below_drew1) | exact HB.out)) hb); clear HO174; clear HO177; clear HO181; clear HB; have HO174 := n0_; have HO177 := n1_; have HO181 := n2_; have HB := n3_; clear n0_ n1_ n2_ n3_; (try clear hb); (try clear hb2); (try clear hk); (try clear hi)))
                          go_ret
                          exact ⟨by first | rfl | (simp [errW_none, errW_some] <;> rfl) | (simp [*, errW_none, errW_some] <;> rfl), by repeat (first | (with_reducible first | exact HB.out | apply below_alloc | apply pw_below_drewN | apply below_drew1) | exact HB.out)⟩
                        · rw [if_neg c15] at H
                          have c15b0 : (((rd_T30 t179 3).f1) == 10) = false := beq_eq_false_iff_ne.mpr c15
                          have c15b1 : (((rd_T30 t179 3).f1) != 10) = true := bne_iff_ne.mpr c15
                          obtain rfl := Option.some.inj H
                          go_enter Try.func22, Try.ntmps22
                          go_wp2_with (first | ((with_reducible refine gate_dst (N := 6) rfl ?_); (try (refine gate_guard (by rfl) ?_; dsimp only)); refine Kd.R_lit k35 _ 35 ?hg (N := 6) ?hd (xs := ([(⟨0, 8, false⟩ : S35)] : List (S35))) (inner := [.int .i64 0, .int .i64 8, .bool false]) (ok := fun _ => True) (okp := fun _ => True) ?hr ?hp (fun _ hk => hk) trivial (Below.refl _ _) (Nat.le_refl _) (by simp) ?_; (case hd => rfl); (case hg => rfl); (case hr => first | (go_simp; done) | (go_simp; rfl)); (case hp => exact (Reps.c3 (show Kd.M k35 _ _ _ (⟨0, 8, false⟩ : S35) [.int .i64 0, .int .i64 8, .bool false] from (k35_mkM _ _ _ (⟨0, 8, false⟩ : S35) )) (Reps.none _ _))); intro v173 w25 ho26 hb hg_ hnew_; clear hg_ hnew_; (first | rw [← Ny172.out] at ho26 | (simp only [Int.reduceToNat] at ho26; rw [← Ny172.out] at ho26)); have n0_ := Aside0.mk (Kd.R_lower ho26 (below_size (by repeat (first | (with_reducible first | exact HB.out | apply below_alloc | apply pw_below_drewN | apply below_drew1) | exact HB.out)))); have n1_ := Aside0.mk (below_step (by repeat (first | (with_reducible first | exact HB.out | apply below_alloc | apply pw_below_drewN | apply below_drew1) | exact HB.out)) hb); clear HB; have HO174 := n0_; have HB := n1_; clear n0_ n1_; clear hb ho26; obtain ⟨Ao27, co27, eo27⟩ := Kd.R_slice HO174.out; subst eo27) | ((with_reducible refine gate_callee (f := 23) rfl ?_); refine goesL_ (some 9) rfl rfl Try.func23 (by kernel_rfl) rfl #[.slice Ao27 y172.length co27, .int .i64 0, .int .i64 3] rfl (by (try simp only [List.map_toArray, List.map_cons, List.map_nil]); first | done | rfl | (simp only [List.length_drop, List.length_take]; rfl)) ?_; (with_reducible refine (carve_Blocks.calls k (fun k_ => some k_ = (.slice Ao27 y172.length co27 : Value).ownBlock) _ _ y172 0 3 t175 true _ ?side1 A1.out).mono ?_); (case side1 => exact Kd.R_V (Kd.R_tight rfl (HO174.out))); rintro e w28 ⟨v176, rfl, ho0, hb⟩; refine ⟨_, rfl, ?_⟩; have n0_ := Aside0.mk (Kd.R_elder' (by (with_reducible repeat (first | apply Kd.R_alloc | apply Kd.R_drewN | apply Kd.R_drew)); exact HO174.out) (Kd.R_base ho0) hb); have n1_ := Aside0.mk (Kd.R_lower (Kd.R_new' (Kd.R_mono (ok' := fun k_ => True) ho0 (fun _ hk_ => trivial)) (Kd.R_lt (by (with_reducible repeat (first | apply Kd.R_alloc | apply Kd.R_drewN | apply Kd.R_drew)); exact HO174.out))) (below_size (by repeat (first | (with_reducible first | exact HB.out | apply below_alloc | apply pw_below_drewN | apply below_drew1) | exact HB.out)))); have n2_ := Aside0.mk (below_step (by repeat (first | (with_reducible first | exact HB.out | apply below_alloc | apply pw_below_drewN | apply below_drew1) | exact HB.out)) hb); clear HO174; clear HB; have HO174 := n0_; have HO177 := n1_; have HB := n2_; clear n0_ n1_ n2_; (try clear hb); (try clear hb2); (try clear hk); (try clear hi); (try clear ho0)) | ((with_reducible refine gate_callee (f := 26) rfl ?_); refine goesL_ (some 13) rfl rfl Try.func26 (by kernel_rfl) rfl #[.slice Ao27 y172.length co27, .int .i64 0, .int .i64 3] rfl (by (try simp only [List.map_toArray, List.map_cons, List.map_nil]); first | done | rfl | (simp only [List.length_drop, List.length_take]; rfl)) ?_; (with_reducible refine (carve_Edits.calls k _ _ y172 0 3 t179 _ ?side1 ?side2 A2.out).mono ?_); (case side1 => repeat (first | exact (Kd.R_reads' HO174.out).2.2 | (with_reducible refine Kd.C_alloc ?_ _) | (with_reducible refine Kd.C_drewN ?_ _) | (with_reducible refine Kd.C_drew ?_))); (case side2 => exact (Kd.R_reads' HO174.out).2.1); rintro e w29 ⟨v180, rfl, ho0, hb⟩; refine ⟨_, rfl, ?_⟩; have n0_ := Aside0.mk (Kd.R_below (by (with_reducible repeat (first | apply Kd.R_alloc | apply Kd.R_drewN | apply Kd.R_drew)); exact HO174.out) hb); have n1_ := Aside0.mk (Kd.R_below (by (with_reducible repeat (first | apply Kd.R_alloc | apply Kd.R_drewN | apply Kd.R_drew)); exact HO177.out) hb); have n2_ := Aside0.mk (Kd.R_lower ho0 (below_size (by repeat (first | (with_reducible first | exact HB.out | apply below_alloc | apply pw_below_drewN | apply below_drew1) | exact HB.out)))); have n3_ := Aside0.mk (below_step (by repeat (first | (with_reducible first | exact HB.out | apply below_alloc | apply pw_below_drewN | apply below_drew1) | exact HB.out)) hb); clear HO174; clear HO177; clear HB; have HO174 := n0_; have HO177 := n1_; have HO181 := n2_; have HB := n3_; clear n0_ n1_ n2_ n3_; (try clear hb); (try clear hb2); (try clear hk); (try clear hi); (try clear ho0); obtain ⟨Ao30, co30, eo30⟩ := Kd.R_slice HO177.out; subst eo30; have p182 : 0 ≤ (0 : Int) := (by omega); have q182 : 0 < (t175.length : Int) := of_decide_eq_true (by first | (with_reducible assumption) | assumption); obtain ⟨ad182, e182, hx182_0, hx182_1, hx182_2⟩ := at_T35 (Kd.R_reads' HO177.out).2.2 0 p182 q182; (try rw [← Nbq6.out] at hx182_2); cases e182; have qi182 : (0 < t175.length) = True := eq_true (by omega); (try rw [show ((0 : Int)).toNat = 0 from rfl] at hx182_0); (try rw [show 0 * 3 = 0 from rfl] at hx182_0); (try rw [Addr.add_zero'] at hx182_0); (try rw [show ((0 : Int)).toNat = 0 from rfl] at hx182_1); (try rw [show 0 * 3 = 0 from rfl] at hx182_1); (try rw [Addr.add_zero'] at hx182_1); (try rw [show ((0 : Int)).toNat = 0 from rfl] at hx182_2); (try rw [show 0 * 3 = 0 from rfl] at hx182_2); (try rw [Addr.add_zero'] at hx182_2); replace p182 := eq_true p182; replace q182 := eq_true q182; have p183 : 0 ≤ (0 : Int) := (by omega); have q183 : 0 < (t175.length : Int) := of_decide_eq_true (by first | (with_reducible assumption) | assumption); obtain ⟨ad183, e183, hx183_0, hx183_1, hx183_2⟩ := at_T35 (Kd.R_reads' HO177.out).2.2 0 p183 q183; (try rw [← Nbq6.out] at hx183_2); obtain rfl : ad182 = ad183 := (by injection e183); have qi183 : (0 < t175.length) = True := eq_true (by omega); (try rw [show ((0 : Int)).toNat = 0 from rfl] at hx183_0); (try rw [show 0 * 3 = 0 from rfl] at hx183_0); (try rw [Addr.add_zero'] at hx183_0); (try rw [show ((0 : Int)).toNat = 0 from rfl] at hx183_1); (try rw [show 0 * 3 = 0 from rfl] at hx183_1); (try rw [Addr.add_zero'] at hx183_1); (try rw [show ((0 : Int)).toNat = 0 from rfl] at hx183_2); (try rw [show 0 * 3 = 0 from rfl] at hx183_2); (try rw [Addr.add_zero'] at hx183_2); replace p183 := eq_true p183; replace q183 := eq_true q183; have p184 : 0 ≤ (1 : Int) := (by omega); have q184 : 1 < (t175.length : Int) := of_decide_eq_true (by first | (with_reducible assumption) | assumption); obtain ⟨ad184, e184, hx184_0, hx184_1, hx184_2⟩ := at_T35 (Kd.R_reads' HO177.out).2.2 1 p184 q184; (try rw [← Nbq6.out] at hx184_2); obtain rfl : ad182 = ad184 := (by injection e184); (try simp only [show (1 : Int).toNat = 1 from rfl, Nat.reduceMul, Nat.reduceEqDiff, Go.Addr.add, ↓reduceIte] at hx184_0); (try simp only [show (1 : Int).toNat = 1 from rfl, Nat.reduceMul, Nat.reduceEqDiff, Go.Addr.add, ↓reduceIte] at hx184_1); (try simp only [show (1 : Int).toNat = 1 from rfl, Nat.reduceMul, Nat.reduceEqDiff, Go.Addr.add, ↓reduceIte] at hx184_2); have qi184 : (1 < t175.length) = True := eq_true (by omega); (try rw [show ((1 : Int)).toNat = 1 from rfl] at hx184_0); (try rw [show 1 * 3 = 3 from rfl] at hx184_0); (try rw [show ((1 : Int)).toNat = 1 from rfl] at hx184_1); (try rw [show 1 * 3 = 3 from rfl] at hx184_1); (try rw [show ((1 : Int)).toNat = 1 from rfl] at hx184_2); (try rw [show 1 * 3 = 3 from rfl] at hx184_2); replace p184 := eq_true p184; replace q184 := eq_true q184; obtain ⟨Ao31, co31, eo31⟩ := Kd.R_slice HO181.out; subst eo31; have p185 : 0 ≤ (0 : Int) := (by omega); have q185 : 0 < (t179.length : Int) := of_decide_eq_true (by first | (with_reducible assumption) | assumption); obtain ⟨ad185, e185, hx185_0, hx185_1⟩ := at_T30 (Kd.R_reads' HO181.out).2.2 0 p185 q185; cases e185; have qi185 : (0 < t179.length) = True := eq_true (by omega); (try rw [show ((0 : Int)).toNat = 0 from rfl] at hx185_0); (try rw [show 0 * 2 = 0 from rfl] at hx185_0); (try rw [Addr.add_zero'] at hx185_0); (try rw [show ((0 : Int)).toNat = 0 from rfl] at hx185_1); (try rw [show 0 * 2 = 0 from rfl] at hx185_1); (try rw [Addr.add_zero'] at hx185_1); replace p185 := eq_true p185; replace q185 := eq_true q185; have p186 : 0 ≤ (3 : Int) := (by omega); have q186 : 3 < (t179.length : Int) := of_decide_eq_true (by first | (with_reducible assumption) | assumption); obtain ⟨ad186, e186, hx186_0, hx186_1⟩ := at_T30 (Kd.R_reads' HO181.out).2.2 3 p186 q186; obtain rfl : ad185 = ad186 := (by injection e186); (try simp only [show (3 : Int).toNat = 3 from rfl, Nat.reduceMul, Nat.reduceEqDiff, Go.Addr.add, ↓reduceIte] at hx186_0); (try simp only [show (3 : Int).toNat = 3 from rfl, Nat.reduceMul, Nat.reduceEqDiff, Go.Addr.add, ↓reduceIte] at hx186_1); have qi186 : (3 < t179.length) = True := eq_true (by omega); (try rw [show ((3 : Int)).toNat = 3 from rfl] at hx186_0); (try rw [show 3 * 2 = 6 from rfl] at hx186_0); (try rw [show ((3 : Int)).toNat = 3 from rfl] at hx186_1); (try rw [show 3 * 2 = 6 from rfl] at hx186_1); replace p186 := eq_true p186; replace q186 := eq_true q186))
                          go_ret
                          exact ⟨by first | rfl | (simp [errW_none, errW_some] <;> rfl) | (simp [*, errW_none, errW_some] <;> rfl), by repeat (first | (with_reducible first | exact HB.out | apply below_alloc | apply pw_below_drewN | apply below_drew1) | exact HB.out)⟩
                      · rw [if_neg c14] at H
                        exact absurd H (by simp)
                    · rw [if_neg c13] at H
                      have c13b0 : (((rd_T30 t179 0).f1) == 7) = false := beq_eq_false_iff_ne.mpr c13
                      have c13b1 : (((rd_T30 t179 0).f1) != 7) = true := bne_iff_ne.mpr c13
                      obtain rfl := Option.some.inj H
                      go_enter Try.func22, Try.ntmps22
                      go_wp2_with (first | ((with_reducible refine gate_dst (N := 6) rfl ?_); (try (refine gate_guard (by rfl) ?_; dsimp only)); refine Kd.R_lit k35 _ 35 ?hg (N := 6) ?hd (xs := ([(⟨0, 8, false⟩ : S35)] : List (S35))) (inner := [.int .i64 0, .int .i64 8, .bool false]) (ok := fun _ => True) (okp := fun _ => True) ?hr ?hp (fun _ hk => hk) trivial (Below.refl _ _) (Nat.le_refl _) (by simp) ?_; (case hd => rfl); (case hg => rfl); (case hr => first | (go_simp; done) | (go_simp; rfl)); (case hp => exact (Reps.c3 (show Kd.M k35 _ _ _ (⟨0, 8, false⟩ : S35) [.int .i64 0, .int .i64 8, .bool false] from (k35_mkM _ _ _ (⟨0, 8, false⟩ : S35) )) (Reps.none _ _))); intro v173 w32 ho33 hb hg_ hnew_; clear hg_ hnew_; (first | rw [← Ny172.out] at ho33 | (simp only [Int.reduceToNat] at ho33; rw [← Ny172.out] at ho33)); have n0_ := Aside0.mk (Kd.R_lower ho33 (below_size (by repeat (first | (with_reducible first | exact HB.out | apply below_alloc | apply pw_below_drewN | apply below_drew1) | exact HB.out)))); have n1_ := Aside0.mk (below_step (by repeat (first | (with_reducible first | exact HB.out | apply below_alloc | apply pw_below_drewN | apply below_drew1) | exact HB.out)) hb); clear HB; have HO174 := n0_; have HB := n1_; clear n0_ n1_; clear hb ho33; obtain ⟨Ao34, co34, eo34⟩ := Kd.R_slice HO174.out; subst eo34) | ((with_reducible refine gate_callee (f := 23) rfl ?_); refine goesL_ (some 9) rfl rfl Try.func23 (by kernel_rfl) rfl #[.slice Ao34 y172.length co34, .int .i64 0, .int .i64 3] rfl (by (try simp only [List.map_toArray, List.map_cons, List.map_nil]); first | done | rfl | (simp only [List.length_drop, List.length_take]; rfl)) ?_; (with_reducible refine (carve_Blocks.calls k (fun k_ => some k_ = (.slice Ao34 y172.length co34 : Value).ownBlock) _ _ y172 0 3 t175 true _ ?side1 A1.out).mono ?_); (case side1 => exact Kd.R_V (Kd.R_tight rfl (HO174.out))); rintro e w35 ⟨v176, rfl, ho0, hb⟩; refine ⟨_, rfl, ?_⟩; have n0_ := Aside0.mk (Kd.R_elder' (by (with_reducible repeat (first | apply Kd.R_alloc | apply Kd.R_drewN | apply Kd.R_drew)); exact HO174.out) (Kd.R_base ho0) hb); have n1_ := Aside0.mk (Kd.R_lower (Kd.R_new' (Kd.R_mono (ok' := fun k_ => True) ho0 (fun _ hk_ => trivial)) (Kd.R_lt (by (with_reducible repeat (first | apply Kd.R_alloc | apply Kd.R_drewN | apply Kd.R_drew)); exact HO174.out))) (below_size (by repeat (first | (with_reducible first | exact HB.out | apply below_alloc | apply pw_below_drewN | apply below_drew1) | exact HB.out)))); have n2_ := Aside0.mk (below_step (by repeat (first | (with_reducible first | exact HB.out | apply below_alloc | apply pw_below_drewN | apply below_drew1) | exact HB.out)) hb); clear HO174; clear HB; have HO174 := n0_; have HO177 := n1_; have HB := n2_; clear n0_ n1_ n2_; (try clear hb); (try clear hb2); (try clear hk); (try clear hi); (try clear ho0)) | ((with_reducible refine gate_callee (f := 26) rfl ?_); refine goesL_ (some 13) rfl rfl Try.func26 (by kernel_rfl) rfl #[.slice Ao34 y172.length co34, .int .i64 0, .int .i64 3] rfl (by (try simp only [List.map_toArray, List.map_cons, List.map_nil]); first | done | rfl | (simp only [List.length_drop, List.length_take]; rfl)) ?_; (with_reducible refine (carve_Edits.calls k _ _ y172 0 3 t179 _ ?side1 ?side2 A2.out).mono ?_); (case side1 => repeat (first | exact (Kd.R_reads' HO174.out).2.2 | (with_reducible refine Kd.C_alloc ?_ _) | (with_reducible refine Kd.C_drewN ?_ _) | (with_reducible refine Kd.C_drew ?_))); (case side2 => exact (Kd.R_reads' HO174.out).2.1); rintro e w36 ⟨v180, rfl, ho0, hb⟩; refine ⟨_, rfl, ?_⟩; have n0_ := Aside0.mk (Kd.R_below (by (with_reducible repeat (first | apply Kd.R_alloc | apply Kd.R_drewN | apply Kd.R_drew)); exact HO174.out) hb); have n1_ := Aside0.mk (Kd.R_below (by (with_reducible repeat (first | apply Kd.R_alloc | apply Kd.R_drewN | apply Kd.R_drew)); exact HO177.out) hb); have n2_ := Aside0.mk (Kd.R_lower ho0 (below_size (by repeat (first | (with_reducible first | exact HB.out | apply below_alloc | apply pw_below_drewN | apply below_drew1) | exact HB.out)))); have n3_ := Aside0.mk (below_step (by repeat (first | (with_reducible first | exact HB.out | apply below_alloc | apply pw_below_drewN | apply below_drew1) | exact HB.out)) hb); clear HO174; clear HO177; clear HB; have HO174 := n0_; have HO177 := n1_; have HO181 := n2_; have HB := n3_; clear n0_ n1_ n2_ n3_; (try clear hb); (try clear hb2); (try clear hk); (try clear hi); (try clear ho0); obtain ⟨Ao37, co37, eo37⟩ := Kd.R_slice HO177.out; subst eo37; have p182 : 0 ≤ (0 : Int) := (by omega); have q182 : 0 < (t175.length : Int) := of_decide_eq_true (by first | (with_reducible assumption) | assumption); obtain ⟨ad182, e182, hx182_0, hx182_1, hx182_2⟩ := at_T35 (Kd.R_reads' HO177.out).2.2 0 p182 q182; (try rw [← Nbq6.out] at hx182_2); cases e182; have qi182 : (0 < t175.length) = True := eq_true (by omega); (try rw [show ((0 : Int)).toNat = 0 from rfl] at hx182_0); (try rw [show 0 * 3 = 0 from rfl] at hx182_0); (try rw [Addr.add_zero'] at hx182_0); (try rw [show ((0 : Int)).toNat = 0 from rfl] at hx182_1); (try rw [show 0 * 3 = 0 from rfl] at hx182_1); (try rw [Addr.add_zero'] at hx182_1); (try rw [show ((0 : Int)).toNat = 0 from rfl] at hx182_2); (try rw [show 0 * 3 = 0 from rfl] at hx182_2); (try rw [Addr.add_zero'] at hx182_2); replace p182 := eq_true p182; replace q182 := eq_true q182; have p183 : 0 ≤ (0 : Int) := (by omega); have q183 : 0 < (t175.length : Int) := of_decide_eq_true (by first | (with_reducible assumption) | assumption); obtain ⟨ad183, e183, hx183_0, hx183_1, hx183_2⟩ := at_T35 (Kd.R_reads' HO177.out).2.2 0 p183 q183; (try rw [← Nbq6.out] at hx183_2); obtain rfl : ad182 = ad183 := (by injection e183); have qi183 : (0 < t175.length) = True := eq_true (by omega); (try rw [show ((0 : Int)).toNat = 0 from rfl] at hx183_0); (try rw [show 0 * 3 = 0 from rfl] at hx183_0); (try rw [Addr.add_zero'] at hx183_0); (try rw [show ((0 : Int)).toNat = 0 from rfl] at hx183_1); (try rw [show 0 * 3 = 0 from rfl] at hx183_1); (try rw [Addr.add_zero'] at hx183_1); (try rw [show ((0 : Int)).toNat = 0 from rfl] at hx183_2); (try rw [show 0 * 3 = 0 from rfl] at hx183_2); (try rw [Addr.add_zero'] at hx183_2); replace p183 := eq_true p183; replace q183 := eq_true q183; have p184 : 0 ≤ (1 : Int) := (by omega); have q184 : 1 < (t175.length : Int) := of_decide_eq_true (by first | (with_reducible assumption) | assumption); obtain ⟨ad184, e184, hx184_0, hx184_1, hx184_2⟩ := at_T35 (Kd.R_reads' HO177.out).2.2 1 p184 q184; (try rw [← Nbq6.out] at hx184_2); obtain rfl : ad182 = ad184 := (by injection e184); (try simp only [show (1 : Int).toNat = 1 from rfl, Nat.reduceMul, Nat.reduceEqDiff, Go.Addr.add, ↓reduceIte] at hx184_0); (try simp only [show (1 : Int).toNat = 1 from rfl, Nat.reduceMul, Nat.reduceEqDiff, Go.Addr.add, ↓reduceIte] at hx184_1); (try simp only [show (1 : Int).toNat = 1 from rfl, Nat.reduceMul, Nat.reduceEqDiff, Go.Addr.add, ↓reduceIte] at hx184_2); have qi184 : (1 < t175.length) = True := eq_true (by omega); (try rw [show ((1 : Int)).toNat = 1 from rfl] at hx184_0); (try rw [show 1 * 3 = 3 from rfl] at hx184_0); (try rw [show ((1 : Int)).toNat = 1 from rfl] at hx184_1); (try rw [show 1 * 3 = 3 from rfl] at hx184_1); (try rw [show ((1 : Int)).toNat = 1 from rfl] at hx184_2); (try rw [show 1 * 3 = 3 from rfl] at hx184_2); replace p184 := eq_true p184; replace q184 := eq_true q184; obtain ⟨Ao38, co38, eo38⟩ := Kd.R_slice HO181.out; subst eo38; have p185 : 0 ≤ (0 : Int) := (by omega); have q185 : 0 < (t179.length : Int) := of_decide_eq_true (by first | (with_reducible assumption) | assumption); obtain ⟨ad185, e185, hx185_0, hx185_1⟩ := at_T30 (Kd.R_reads' HO181.out).2.2 0 p185 q185; cases e185; have qi185 : (0 < t179.length) = True := eq_true (by omega); (try rw [show ((0 : Int)).toNat = 0 from rfl] at hx185_0); (try rw [show 0 * 2 = 0 from rfl] at hx185_0); (try rw [Addr.add_zero'] at hx185_0); (try rw [show ((0 : Int)).toNat = 0 from rfl] at hx185_1); (try rw [show 0 * 2 = 0 from rfl] at hx185_1); (try rw [Addr.add_zero'] at hx185_1); replace p185 := eq_true p185; replace q185 := eq_true q185))
                      go_ret
                      exact ⟨by first | rfl | (simp [errW_none, errW_some] <;> rfl) | (simp [*, errW_none, errW_some] <;> rfl), by repeat (first | (with_reducible first | exact HB.out | apply below_alloc | apply pw_below_drewN | apply below_drew1) | exact HB.out)⟩
                  · rw [if_neg c12] at H
                    exact absurd H (by simp)
                · rw [if_neg c11] at H
                  have c11b0 : ((t179.length : Int) == 4) = false := beq_eq_false_iff_ne.mpr c11
                  have c11b1 : ((t179.length : Int) != 4) = true := bne_iff_ne.mpr c11
                  obtain rfl := Option.some.inj H
                  go_enter Try.func22, Try.ntmps22
                  go_wp2_with (first | ((with_reducible refine gate_dst (N := 6) rfl ?_); (try (refine gate_guard (by rfl) ?_; dsimp only)); refine Kd.R_lit k35 _ 35 ?hg (N := 6) ?hd (xs := ([(⟨0, 8, false⟩ : S35)] : List (S35))) (inner := [.int .i64 0, .int .i64 8, .bool false]) (ok := fun _ => True) (okp := fun _ => True) ?hr ?hp (fun _ hk => hk) trivial (Below.refl _ _) (Nat.le_refl _) (by simp) ?_; (case hd => rfl); (case hg => rfl); (case hr => first | (go_simp; done) | (go_simp; rfl)); (case hp => exact (Reps.c3 (show Kd.M k35 _ _ _ (⟨0, 8, false⟩ : S35) [.int .i64 0, .int .i64 8, .bool false] from (k35_mkM _ _ _ (⟨0, 8, false⟩ : S35) )) (Reps.none _ _))); intro v173 w39 ho40 hb hg_ hnew_; clear hg_ hnew_; (first | rw [← Ny172.out] at ho40 | (simp only [Int.reduceToNat] at ho40; rw [← Ny172.out] at ho40)); have n0_ := Aside0.mk (Kd.R_lower ho40 (below_size (by repeat (first | (with_reducible first | exact HB.out | apply below_alloc | apply pw_below_drewN | apply below_drew1) | exact HB.out)))); have n1_ := Aside0.mk (below_step (by repeat (first | (with_reducible first | exact HB.out | apply below_alloc | apply pw_below_drewN | apply below_drew1) | exact HB.out)) hb); clear HB; have HO174 := n0_; have HB := n1_; clear n0_ n1_; clear hb ho40; obtain ⟨Ao41, co41, eo41⟩ := Kd.R_slice HO174.out; subst eo41) | ((with_reducible refine gate_callee (f := 23) rfl ?_); refine goesL_ (some 9) rfl rfl Try.func23 (by kernel_rfl) rfl #[.slice Ao41 y172.length co41, .int .i64 0, .int .i64 3] rfl (by (try simp only [List.map_toArray, List.map_cons, List.map_nil]); first | done | rfl | (simp only [List.length_drop, List.length_take]; rfl)) ?_; (with_reducible refine (carve_Blocks.calls k (fun k_ => some k_ = (.slice Ao41 y172.length co41 : Value).ownBlock) _ _ y172 0 3 t175 true _ ?side1 A1.out).mono ?_); (case side1 => exact Kd.R_V (Kd.R_tight rfl (HO174.out))); rintro e w42 ⟨v176, rfl, ho0, hb⟩; refine ⟨_, rfl, ?_⟩; have n0_ := Aside0.mk (Kd.R_elder' (by (with_reducible repeat (first | apply Kd.R_alloc | apply Kd.R_drewN | apply Kd.R_drew)); exact HO174.out) (Kd.R_base ho0) hb); have n1_ := Aside0.mk (Kd.R_lower (Kd.R_new' (Kd.R_mono (ok' := fun k_ => True) ho0 (fun _ hk_ => trivial)) (Kd.R_lt (by (with_reducible repeat (first | apply Kd.R_alloc | apply Kd.R_drewN | apply Kd.R_drew)); exact HO174.out))) (below_size (by repeat (first | (with_reducible first | exact HB.out | apply below_alloc | apply pw_below_drewN | apply below_drew1) | exact HB.out)))); have n2_ := Aside0.mk (below_step (by repeat (first | (with_reducible first | exact HB.out | apply below_alloc | apply pw_below_drewN | apply below_drew1) | exact HB.out)) hb); clear HO174; clear HB; have HO174 := n0_; have HO177 := n1_; have HB := n2_; clear n0_ n1_ n2_; (try clear hb); (try clear hb2); (try clear hk); (try clear hi); (try clear ho0)) | ((with_reducible refine gate_callee (f := 26) rfl ?_); refine goesL_ (some 13) rfl rfl Try.func26 (by kernel_rfl) rfl #[.slice Ao41 y172.length co41, .int .i64 0, .int .i64 3] rfl (by (try simp only [List.map_toArray, List.map_cons, List.map_nil]); first | done | rfl | (simp only [List.length_drop, List.length_take]; rfl)) ?_; (with_reducible refine (carve_Edits.calls k _ _ y172 0 3 t179 _ ?side1 ?side2 A2.out).mono ?_); (case side1 => repeat (first | exact (Kd.R_reads' HO174.out).2.2 | (with_reducible refine Kd.C_alloc ?_ _) | (with_reducible refine Kd.C_drewN ?_ _) | (with_reducible refine Kd.C_drew ?_))); (case side2 => exact (Kd.R_reads' HO174.out).2.1); rintro e w43 ⟨v180, rfl, ho0, hb⟩; refine ⟨_, rfl, ?_⟩; have n0_ := Aside0.mk (Kd.R_below (by (with_reducible repeat (first | apply Kd.R_alloc | apply Kd.R_drewN | apply Kd.R_drew)); exact HO174.out) hb); have n1_ := Aside0.mk (Kd.R_below (by (with_reducible repeat (first | apply Kd.R_alloc | apply Kd.R_drewN | apply Kd.R_drew)); exact HO177.out) hb); have n2_ := Aside0.mk (Kd.R_lower ho0 (below_size (by repeat (first | (with_reducible first | exact HB.out | apply below_alloc | apply pw_below_drewN | apply below_drew1) | exact HB.out)))); have n3_ := Aside0.mk (below_step (by repeat (first | (with_reducible first | exact HB.out | apply below_alloc | apply pw_below_drewN | apply below_drew1) | exact HB.out)) hb); clear HO174; clear HO177; clear HB; have HO174 := n0_; have HO177 := n1_; have HO181 := n2_; have HB := n3_; clear n0_ n1_ n2_ n3_; (try clear hb); (try clear hb2); (try clear hk); (try clear hi); (try clear ho0); obtain ⟨Ao44, co44, eo44⟩ := Kd.R_slice HO177.out; subst eo44; have p182 : 0 ≤ (0 : Int) := (by omega); have q182 : 0 < (t175.length : Int) := of_decide_eq_true (by first | (with_reducible assumption) | assumption); obtain ⟨ad182, e182, hx182_0, hx182_1, hx182_2⟩ := at_T35 (Kd.R_reads' HO177.out).2.2 0 p182 q182; (try rw [← Nbq6.out] at hx182_2); cases e182; have qi182 : (0 < t175.length) = True := eq_true (by omega); (try rw [show ((0 : Int)).toNat = 0 from rfl] at hx182_0); (try rw [show 0 * 3 = 0 from rfl] at hx182_0); (try rw [Addr.add_zero'] at hx182_0); (try rw [show ((0 : Int)).toNat = 0 from rfl] at hx182_1); (try rw [show 0 * 3 = 0 from rfl] at hx182_1); (try rw [Addr.add_zero'] at hx182_1); (try rw [show ((0 : Int)).toNat = 0 from rfl] at hx182_2); (try rw [show 0 * 3 = 0 from rfl] at hx182_2); (try rw [Addr.add_zero'] at hx182_2); replace p182 := eq_true p182; replace q182 := eq_true q182; have p183 : 0 ≤ (0 : Int) := (by omega); have q183 : 0 < (t175.length : Int) := of_decide_eq_true (by first | (with_reducible assumption) | assumption); obtain ⟨ad183, e183, hx183_0, hx183_1, hx183_2⟩ := at_T35 (Kd.R_reads' HO177.out).2.2 0 p183 q183; (try rw [← Nbq6.out] at hx183_2); obtain rfl : ad182 = ad183 := (by injection e183); have qi183 : (0 < t175.length) = True := eq_true (by omega); (try rw [show ((0 : Int)).toNat = 0 from rfl] at hx183_0); (try rw [show 0 * 3 = 0 from rfl] at hx183_0); (try rw [Addr.add_zero'] at hx183_0); (try rw [show ((0 : Int)).toNat = 0 from rfl] at hx183_1); (try rw [show 0 * 3 = 0 from rfl] at hx183_1); (try rw [Addr.add_zero'] at hx183_1); (try rw [show ((0 : Int)).toNat = 0 from rfl] at hx183_2); (try rw [show 0 * 3 = 0 from rfl] at hx183_2); (try rw [Addr.add_zero'] at hx183_2); replace p183 := eq_true p183; replace q183 := eq_true q183; have p184 : 0 ≤ (1 : Int) := (by omega); have q184 : 1 < (t175.length : Int) := of_decide_eq_true (by first | (with_reducible assumption) | assumption); obtain ⟨ad184, e184, hx184_0, hx184_1, hx184_2⟩ := at_T35 (Kd.R_reads' HO177.out).2.2 1 p184 q184; (try rw [← Nbq6.out] at hx184_2); obtain rfl : ad182 = ad184 := (by injection e184); (try simp only [show (1 : Int).toNat = 1 from rfl, Nat.reduceMul, Nat.reduceEqDiff, Go.Addr.add, ↓reduceIte] at hx184_0); (try simp only [show (1 : Int).toNat = 1 from rfl, Nat.reduceMul, Nat.reduceEqDiff, Go.Addr.add, ↓reduceIte] at hx184_1); (try simp only [show (1 : Int).toNat = 1 from rfl, Nat.reduceMul, Nat.reduceEqDiff, Go.Addr.add, ↓reduceIte] at hx184_2); have qi184 : (1 < t175.length) = True := eq_true (by omega); (try rw [show ((1 : Int)).toNat = 1 from rfl] at hx184_0); (try rw [show 1 * 3 = 3 from rfl] at hx184_0); (try rw [show ((1 : Int)).toNat = 1 from rfl] at hx184_1); (try rw [show 1 * 3 = 3 from rfl] at hx184_1); (try rw [show ((1 : Int)).toNat = 1 from rfl] at hx184_2); (try rw [show 1 * 3 = 3 from rfl] at hx184_2); replace p184 := eq_true p184; replace q184 := eq_true q184; obtain ⟨Ao45, co45, eo45⟩ := Kd.R_slice HO181.out; subst eo45))
                  go_ret
                  exact ⟨by first | rfl | (simp [errW_none, errW_some] <;> rfl) | (simp [*, errW_none, errW_some] <;> rfl), by repeat (first | (with_reducible first | exact HB.out | apply below_alloc | apply pw_below_drewN | apply below_drew1) | exact HB.out)⟩
              · rw [if_neg c10] at H
                have c10b0 : (((rd_T35 t175 1).f0) == 3) = false := beq_eq_false_iff_ne.mpr c10
                have c10b1 : (((rd_T35 t175 1).f0) != 3) = true := bne_iff_ne.mpr c10
                obtain rfl := Option.some.inj H
                go_enter Try.func22, Try.ntmps22
                go_wp2_with (first | ((with_reducible refine gate_dst (N := 6) rfl ?_); (try (refine gate_guard (by rfl) ?_; dsimp only)); refine Kd.R_lit k35 _ 35 ?hg (N := 6) ?hd (xs := ([(⟨0, 8, false⟩ : S35)] : List (S35))) (inner := [.int .i64 0, .int .i64 8, .bool false]) (ok := fun _ => True) (okp := fun _ => True) ?hr ?hp (fun _ hk => hk) trivial (Below.refl _ _) (Nat.le_refl _) (by simp) ?_; (case hd => rfl); (case hg => rfl); (case hr => first | (go_simp; done) | (go_simp; rfl)); (case hp => exact (Reps.c3 (show Kd.M k35 _ _ _ (⟨0, 8, false⟩ : S35) [.int .i64 0, .int .i64 8, .bool false] from (k35_mkM _ _ _ (⟨0, 8, false⟩ : S35) )) (Reps.none _ _))); intro v173 w46 ho47 hb hg_ hnew_; clear hg_ hnew_; (first | rw [← Ny172.out] at ho47 | (simp only [Int.reduceToNat] at ho47; rw [← Ny172.out] at ho47)); have n0_ := Aside0.mk (Kd.R_lower ho47 (below_size (by repeat (first | (with_reducible first | exact HB.out | apply below_alloc | apply pw_below_drewN | apply below_drew1) | exact HB.out)))); have n1_ := Aside0.mk (below_step (by repeat (first | (with_reducible first | exact HB.out | apply below_alloc | apply pw_below_drewN | apply below_drew1) | exact HB.out)) hb); clear HB; have HO174 := n0_; have HB := n1_; clear n0_ n1_; clear hb ho47; obtain ⟨Ao48, co48, eo48⟩ := Kd.R_slice HO174.out; subst eo48) | ((with_reducible refine gate_callee (f := 23) rfl ?_); refine goesL_ (some 9) rfl rfl Try.func23 (by kernel_rfl) rfl #[.slice Ao48 y172.length co48, .int .i64 0, .int .i64 3] rfl (by (try simp only [List.map_toArray, List.map_cons, List.map_nil]); first | done | rfl | (simp only [List.length_drop, List.length_take]; rfl)) ?_; (with_reducible refine (carve_Blocks.calls k (fun k_ => some k_ = (.slice Ao48 y172.length co48 : Value).ownBlock) _ _ y172 0 3 t175 true _ ?side1 A1.out).mono ?_); (case side1 => exact Kd.R_V (Kd.R_tight rfl (HO174.out))); rintro e w49 ⟨v176, rfl, ho0, hb⟩; refine ⟨_, rfl, ?_⟩; have n0_ := Aside0.mk (Kd.R_elder' (by (with_reducible repeat (first | apply Kd.R_alloc | apply Kd.R_drewN | apply Kd.R_drew)); exact HO174.out) (Kd.R_base ho0) hb); have n1_ := Aside0.mk (Kd.R_lower (Kd.R_new' (Kd.R_mono (ok' := fun k_ => True) ho0 (fun _ hk_ => trivial)) (Kd.R_lt (by (with_reducible repeat (first | apply Kd.R_alloc | apply Kd.R_drewN | apply Kd.R_drew)); exact HO174.out))) (below_size (by repeat (first | (with_reducible first | exact HB.out | apply below_alloc | apply pw_below_drewN | apply below_drew1) | exact HB.out)))); have n2_ := Aside0.mk (below_step (by repeat (first | (with_reducible first | exact HB.out | apply below_alloc | apply pw_below_drewN | apply below_drew1) | exact HB.out)) hb); clear HO174; clear HB; have HO174 := n0_; have HO177 := n1_; have HB := n2_; clear n0_ n1_ n2_; (try clear hb); (try clear hb2); (try clear hk); (try clear hi); (try clear ho0)) | ((with_reducible refine gate_callee (f := 26) rfl ?_); refine goesL_ (some 13) rfl rfl Try.func26 (by kernel_rfl) rfl #[.slice Ao48 y172.length co48, .int .i64 0, .int .i64 3] rfl (by (try simp only [List.map_toArray, List.map_cons, List.map_nil]); first | done | rfl | (simp only [List.length_drop, List.length_take]; rfl)) ?_; (with_reducible refine (carve_Edits.calls k _ _ y172 0 3 t179 _ ?side1 ?side2 A2.out).mono ?_); (case side1 => repeat (first | exact (Kd.R_reads' HO174.out).2.2 | (with_reducible refine Kd.C_alloc ?_ _) | (with_reducible refine Kd.C_drewN ?_ _) | (with_reducible refine Kd.C_drew ?_))); (case side2 => exact (Kd.R_reads' HO174.out).2.1); rintro e w50 ⟨v180, rfl, ho0, hb⟩; refine ⟨_, rfl, ?_⟩; have n0_ := Aside0.mk (Kd.R_below (by (with_reducible repeat (first | apply Kd.R_alloc | apply Kd.R_drewN | apply Kd.R_drew)); exact HO174.out) hb); have n1_ := Aside0.mk (Kd.R_below (by (with_reducible repeat (first | apply Kd.R_alloc | apply Kd.R_drewN | apply Kd.R_drew)); exact HO177.out) hb); have n2_ := Aside0.mk (Kd.R_lower ho0 (below_size (by repeat (first | (with_reducible first | exact HB.out | apply below_alloc | apply pw_below_drewN | apply below_drew1) | exact HB.out)))); have n3_ := Aside0.mk (below_step (by repeat (first | (with_reducible first | exact HB.out | apply below_alloc | apply pw_below_drewN | apply below_drew1) | exact HB.out)) hb); clear HO174; clear HO177; clear HB; have HO174 := n0_; have HO177 := n1_; have HO181 := n2_; have HB := n3_; clear n0_ n1_ n2_ n3_; (try clear hb); (try clear hb2); (try clear hk); (try clear hi); (try clear ho0); obtain ⟨Ao51, co51, eo51⟩ := Kd.R_slice HO177.out; subst eo51; have p182 : 0 ≤ (0 : Int) := (by omega); have q182 : 0 < (t175.length : Int) := of_decide_eq_true (by first | (with_reducible assumption) | assumption); obtain ⟨ad182, e182, hx182_0, hx182_1, hx182_2⟩ := at_T35 (Kd.R_reads' HO177.out).2.2 0 p182 q182; (try rw [← Nbq6.out] at hx182_2); cases e182; have qi182 : (0 < t175.length) = True := eq_true (by omega); (try rw [show ((0 : Int)).toNat = 0 from rfl] at hx182_0); (try rw [show 0 * 3 = 0 from rfl] at hx182_0); (try rw [Addr.add_zero'] at hx182_0); (try rw [show ((0 : Int)).toNat = 0 from rfl] at hx182_1); (try rw [show 0 * 3 = 0 from rfl] at hx182_1); (try rw [Addr.add_zero'] at hx182_1); (try rw [show ((0 : Int)).toNat = 0 from rfl] at hx182_2); (try rw [show 0 * 3 = 0 from rfl] at hx182_2); (try rw [Addr.add_zero'] at hx182_2); replace p182 := eq_true p182; replace q182 := eq_true q182; have p183 : 0 ≤ (0 : Int) := (by omega); have q183 : 0 < (t175.length : Int) := of_decide_eq_true (by first | (with_reducible assumption) | assumption); obtain ⟨ad183, e183, hx183_0, hx183_1, hx183_2⟩ := at_T35 (Kd.R_reads' HO177.out).2.2 0 p183 q183; (try rw [← Nbq6.out] at hx183_2); obtain rfl : ad182 = ad183 := (by injection e183); have qi183 : (0 < t175.length) = True := eq_true (by omega); (try rw [show ((0 : Int)).toNat = 0 from rfl] at hx183_0); (try rw [show 0 * 3 = 0 from rfl] at hx183_0); (try rw [Addr.add_zero'] at hx183_0); (try rw [show ((0 : Int)).toNat = 0 from rfl] at hx183_1); (try rw [show 0 * 3 = 0 from rfl] at hx183_1); (try rw [Addr.add_zero'] at hx183_1); (try rw [show ((0 : Int)).toNat = 0 from rfl] at hx183_2); (try rw [show 0 * 3 = 0 from rfl] at hx183_2); (try rw [Addr.add_zero'] at hx183_2); replace p183 := eq_true p183; replace q183 := eq_true q183; have p184 : 0 ≤ (1 : Int) := (by omega); have q184 : 1 < (t175.length : Int) := of_decide_eq_true (by first | (with_reducible assumption) | assumption); obtain ⟨ad184, e184, hx184_0, hx184_1, hx184_2⟩ := at_T35 (Kd.R_reads' HO177.out).2.2 1 p184 q184; (try rw [← Nbq6.out] at hx184_2); obtain rfl : ad182 = ad184 := (by injection e184); (try simp only [show (1 : Int).toNat = 1 from rfl, Nat.reduceMul, Nat.reduceEqDiff, Go.Addr.add, ↓reduceIte] at hx184_0); (try simp only [show (1 : Int).toNat = 1 from rfl, Nat.reduceMul, Nat.reduceEqDiff, Go.Addr.add, ↓reduceIte] at hx184_1); (try simp only [show (1 : Int).toNat = 1 from rfl, Nat.reduceMul, Nat.reduceEqDiff, Go.Addr.add, ↓reduceIte] at hx184_2); have qi184 : (1 < t175.length) = True := eq_true (by omega); (try rw [show ((1 : Int)).toNat = 1 from rfl] at hx184_0); (try rw [show 1 * 3 = 3 from rfl] at hx184_0); (try rw [show ((1 : Int)).toNat = 1 from rfl] at hx184_1); (try rw [show 1 * 3 = 3 from rfl] at hx184_1); (try rw [show ((1 : Int)).toNat = 1 from rfl] at hx184_2); (try rw [show 1 * 3 = 3 from rfl] at hx184_2); replace p184 := eq_true p184; replace q184 := eq_true q184))
                go_ret
                exact ⟨by first | rfl | (simp [errW_none, errW_some] <;> rfl) | (simp [*, errW_none, errW_some] <;> rfl), by repeat (first | (with_reducible first | exact HB.out | apply below_alloc | apply pw_below_drewN | apply below_drew1) | exact HB.out)⟩
            · rw [if_neg c9] at H
              exact absurd H (by simp)
          · rw [if_neg c8] at H
            have c8b0 : (((rd_T35 t175 0).f1) == 3) = false := beq_eq_false_iff_ne.mpr c8
            have c8b1 : (((rd_T35 t175 0).f1) != 3) = true := bne_iff_ne.mpr c8
            obtain rfl := Option.some.inj H
            go_enter Try.func22, Try.ntmps22
            go_wp2_with (first | ((with_reducible refine gate_dst (N := 6) rfl ?_); (try (refine gate_guard (by rfl) ?_; dsimp only)); refine Kd.R_lit k35 _ 35 ?hg (N := 6) ?hd (xs := ([(⟨0, 8, false⟩ : S35)] : List (S35))) (inner := [.int .i64 0, .int .i64 8, .bool false]) (ok := fun _ => True) (okp := fun _ => True) ?hr ?hp (fun _ hk => hk) trivial (Below.refl _ _) (Nat.le_refl _) (by simp) ?_; (case hd => rfl); (case hg => rfl); (case hr => first | (go_simp; done) | (go_simp; rfl)); (case hp => exact (Reps.c3 (show Kd.M k35 _ _ _ (⟨0, 8, false⟩ : S35) [.int .i64 0, .int .i64 8, .bool false] from (k35_mkM _ _ _ (⟨0, 8, false⟩ : S35) )) (Reps.none _ _))); intro v173 w52 ho53 hb hg_ hnew_; clear hg_ hnew_; (first | rw [← Ny172.out] at ho53 | (simp only [Int.reduceToNat] at ho53; rw [← Ny172.out] at ho53)); have n0_ := Aside0.mk (Kd.R_lower ho53 (below_size (by repeat (first | (with_reducible first | exact HB.out | apply below_alloc | apply pw_below_drewN | apply below_drew1) | exact HB.out)))); have n1_ := Aside0.mk (below_step (by repeat (first | (with_reducible first | exact HB.out | apply below_alloc | apply pw_below_drewN | apply below_drew1) | exact HB.out)) hb); clear HB; have HO174 := n0_; have HB := n1_; clear n0_ n1_; clear hb ho53; obtain ⟨Ao54, co54, eo54⟩ := Kd.R_slice HO174.out; subst eo54) | ((with_reducible refine gate_callee (f := 23) rfl ?_); refine goesL_ (some 9) rfl rfl Try.func23 (by kernel_rfl) rfl #[.slice Ao54 y172.length co54, .int .i64 0, .int .i64 3] rfl (by (try simp only [List.map_toArray, List.map_cons, List.map_nil]); first | done | rfl | (simp only [List.length_drop, List.length_take]; rfl)) ?_; (with_reducible refine (carve_Blocks.calls k (fun k_ => some k_ = (.slice Ao54 y172.length co54 : Value).ownBlock) _ _ y172 0 3 t175 true _ ?side1 A1.out).mono ?_); (case side1 => exact Kd.R_V (Kd.R_tight rfl (HO174.out))); rintro e w55 ⟨v176, rfl, ho0, hb⟩; refine ⟨_, rfl, ?_⟩; have n0_ := Aside0.mk (Kd.R_elder' (by (with_reducible repeat (first | apply Kd.R_alloc | apply Kd.R_drewN | apply Kd.R_drew)); exact HO174.out) (Kd.R_base ho0) hb); have n1_ := Aside0.mk (Kd.R_lower (Kd.R_new' (Kd.R_mono (ok' := fun k_ => True) ho0 (fun _ hk_ => trivial)) (Kd.R_lt (by (with_reducible repeat (first | apply Kd.R_alloc | apply Kd.R_drewN | apply Kd.R_drew)); exact HO174.out))) (below_size (by repeat (first | (with_reducible first | exact HB.out | apply below_alloc | apply pw_below_drewN | apply below_drew1) | exact HB.out)))); have n2_ := Aside0.mk (below_step (by repeat (first | (with_reducible first | exact HB.out | apply below_alloc | apply pw_below_drewN | apply below_drew1) | exact HB.out)) hb); clear HO174; clear HB; have HO174 := n0_; have HO177 := n1_; have HB := n2_; clear n0_ n1_ n2_; (try clear hb); (try clear hb2); (try clear hk); (try clear hi); (try clear ho0)) | ((with_reducible refine gate_callee (f := 26) rfl ?_); refine goesL_ (some 13) rfl rfl Try.func26 (by kernel_rfl) rfl #[.slice Ao54 y172.length co54, .int .i64 0, .int .i64 3] rfl (by (try simp only [List.map_toArray, List.map_cons, List.map_nil]); first | done | rfl | (simp only [List.length_drop, List.length_take]; rfl)) ?_; (with_reducible refine (carve_Edits.calls k _ _ y172 0 3 t179 _ ?side1 ?side2 A2.out).mono ?_); (case side1 => repeat (first | exact (Kd.R_reads' HO174.out).2.2 | (with_reducible refine Kd.C_alloc ?_ _) | (with_reducible refine Kd.C_drewN ?_ _) | (with_reducible refine Kd.C_drew ?_))); (case side2 => exact (Kd.R_reads' HO174.out).2.1); rintro e w56 ⟨v180, rfl, ho0, hb⟩; refine ⟨_, rfl, ?_⟩; have n0_ := Aside0.mk (Kd.R_below (by (with_reducible repeat (first | apply Kd.R_alloc | apply Kd.R_drewN | apply Kd.R_drew)); exact HO174.out) hb); have n1_ := Aside0.mk (Kd.R_below (by (with_reducible repeat (first | apply Kd.R_alloc | apply Kd.R_drewN | apply Kd.R_drew)); exact HO177.out) hb); have n2_ := Aside0.mk (Kd.R_lower ho0 (below_size (by repeat (first | (with_reducible first | exact HB.out | apply below_alloc | apply pw_below_drewN | apply below_drew1) | exact HB.out)))); have n3_ := Aside0.mk (below_step (by repeat (first | (with_reducible first | exact HB.out | apply below_alloc | apply pw_below_drewN | apply below_drew1) | exact HB.out)) hb); clear HO174; clear HO177; clear HB; have HO174 := n0_; have HO177 := n1_; have HO181 := n2_; have HB := n3_; clear n0_ n1_ n2_ n3_; (try clear hb); (try clear hb2); (try clear hk); (try clear hi); (try clear ho0); obtain ⟨Ao57, co57, eo57⟩ := Kd.R_slice HO177.out; subst eo57; have p182 : 0 ≤ (0 : Int) := (by omega); have q182 : 0 < (t175.length : Int) := of_decide_eq_true (by first | (with_reducible assumption) | assumption); obtain ⟨ad182, e182, hx182_0, hx182_1, hx182_2⟩ := at_T35 (Kd.R_reads' HO177.out).2.2 0 p182 q182; (try rw [← Nbq6.out] at hx182_2); cases e182; have qi182 : (0 < t175.length) = True := eq_true (by omega); (try rw [show ((0 : Int)).toNat = 0 from rfl] at hx182_0); (try rw [show 0 * 3 = 0 from rfl] at hx182_0); (try rw [Addr.add_zero'] at hx182_0); (try rw [show ((0 : Int)).toNat = 0 from rfl] at hx182_1); (try rw [show 0 * 3 = 0 from rfl] at hx182_1); (try rw [Addr.add_zero'] at hx182_1); (try rw [show ((0 : Int)).toNat = 0 from rfl] at hx182_2); (try rw [show 0 * 3 = 0 from rfl] at hx182_2); (try rw [Addr.add_zero'] at hx182_2); replace p182 := eq_true p182; replace q182 := eq_true q182; have p183 : 0 ≤ (0 : Int) := (by omega); have q183 : 0 < (t175.length : Int) := of_decide_eq_true (by first | (with_reducible assumption) | assumption); obtain ⟨ad183, e183, hx183_0, hx183_1, hx183_2⟩ := at_T35 (Kd.R_reads' HO177.out).2.2 0 p183 q183; (try rw [← Nbq6.out] at hx183_2); obtain rfl : ad182 = ad183 := (by injection e183); have qi183 : (0 < t175.length) = True := eq_true (by omega); (try rw [show ((0 : Int)).toNat = 0 from rfl] at hx183_0); (try rw [show 0 * 3 = 0 from rfl] at hx183_0); (try rw [Addr.add_zero'] at hx183_0); (try rw [show ((0 : Int)).toNat = 0 from rfl] at hx183_1); (try rw [show 0 * 3 = 0 from rfl] at hx183_1); (try rw [Addr.add_zero'] at hx183_1); (try rw [show ((0 : Int)).toNat = 0 from rfl] at hx183_2); (try rw [show 0 * 3 = 0 from rfl] at hx183_2); (try rw [Addr.add_zero'] at hx183_2); replace p183 := eq_true p183; replace q183 := eq_true q183))
            go_ret
            exact ⟨by first | rfl | (simp [errW_none, errW_some] <;> rfl) | (simp [*, errW_none, errW_some] <;> rfl), by repeat (first | (with_reducible first | exact HB.out | apply below_alloc | apply pw_below_drewN | apply below_drew1) | exact HB.out)⟩
        · replace c7 := Bool.eq_false_iff.mpr c7
          subst c7
          have H1 : (some false) = some r := by rw [if_neg (show ¬ (false = true) by decide)] at H; exact H
          clear H
          have H := H1
          clear H1
          obtain rfl := Option.some.inj H
          go_enter Try.func22, Try.ntmps22
          go_wp2_with (first | ((with_reducible refine gate_dst (N := 6) rfl ?_); (try (refine gate_guard (by rfl) ?_; dsimp only)); refine Kd.R_lit k35 _ 35 ?hg (N := 6) ?hd (xs := ([(⟨0, 8, false⟩ : S35)] : List (S35))) (inner := [.int .i64 0, .int .i64 8, .bool false]) (ok := fun _ => True) (okp := fun _ => True) ?hr ?hp (fun _ hk => hk) trivial (Below.refl _ _) (Nat.le_refl _) (by simp) ?_; (case hd => rfl); (case hg => rfl); (case hr => first | (go_simp; done) | (go_simp; rfl)); (case hp => exact (Reps.c3 (show Kd.M k35 _ _ _ (⟨0, 8, false⟩ : S35) [.int .i64 0, .int .i64 8, .bool false] from (k35_mkM _ _ _ (⟨0, 8, false⟩ : S35) )) (Reps.none _ _))); intro v173 w58 ho59 hb hg_ hnew_; clear hg_ hnew_; (first | rw [← Ny172.out] at ho59 | (simp only [Int.reduceToNat] at ho59; rw [← Ny172.out] at ho59)); have n0_ := Aside0.mk (Kd.R_lower ho59 (below_size (by repeat (first | (with_reducible first | exact HB.out | apply below_alloc | apply pw_below_drewN | apply below_drew1) | exact HB.out)))); have n1_ := Aside0.mk (below_step (by repeat (first | (with_reducible first | exact HB.out | apply below_alloc | apply pw_below_drewN | apply below_drew1) | exact HB.out)) hb); clear HB; have HO174 := n0_; have HB := n1_; clear n0_ n1_; clear hb ho59; obtain ⟨Ao60, co60, eo60⟩ := Kd.R_slice HO174.out; subst eo60) | ((with_reducible refine gate_callee (f := 23) rfl ?_); refine goesL_ (some 9) rfl rfl Try.func23 (by kernel_rfl) rfl #[.slice Ao60 y172.length co60, .int .i64 0, .int .i64 3] rfl (by (try simp only [List.map_toArray, List.map_cons, List.map_nil]); first | done | rfl | (simp only [List.length_drop, List.length_take]; rfl)) ?_; (with_reducible refine (carve_Blocks.calls k (fun k_ => some k_ = (.slice Ao60 y172.length co60 : Value).ownBlock) _ _ y172 0 3 t175 true _ ?side1 A1.out).mono ?_); (case side1 => exact Kd.R_V (Kd.R_tight rfl (HO174.out))); rintro e w61 ⟨v176, rfl, ho0, hb⟩; refine ⟨_, rfl, ?_⟩; have n0_ := Aside0.mk (Kd.R_elder' (by (with_reducible repeat (first | apply Kd.R_alloc | apply Kd.R_drewN | apply Kd.R_drew)); exact HO174.out) (Kd.R_base ho0) hb); have n1_ := Aside0.mk (Kd.R_lower (Kd.R_new' (Kd.R_mono (ok' := fun k_ => True) ho0 (fun _ hk_ => trivial)) (Kd.R_lt (by (with_reducible repeat (first | apply Kd.R_alloc | apply Kd.R_drewN | apply Kd.R_drew)); exact HO174.out))) (below_size (by repeat (first | (with_reducible first | exact HB.out | apply below_alloc | apply pw_below_drewN | apply below_drew1) | exact HB.out)))); have n2_ := Aside0.mk (below_step (by repeat (first | (with_reducible first | exact HB.out | apply below_alloc | apply pw_below_drewN | apply below_drew1) | exact HB.out)) hb); clear HO174; clear HB; have HO174 := n0_; have HO177 := n1_; have HB := n2_; clear n0_ n1_ n2_; (try clear hb); (try clear hb2); (try clear hk); (try clear hi); (try clear ho0)) | ((with_reducible refine gate_callee (f := 26) rfl ?_); refine goesL_ (some 13) rfl rfl Try.func26 (by kernel_rfl) rfl #[.slice Ao60 y172.length co60, .int .i64 0, .int .i64 3] rfl (by (try simp only [List.map_toArray, List.map_cons, List.map_nil]); first | done | rfl | (simp only [List.length_drop, List.length_take]; rfl)) ?_; (with_reducible refine (carve_Edits.calls k _ _ y172 0 3 t179 _ ?side1 ?side2 A2.out).mono ?_); (case side1 => repeat (first | exact (Kd.R_reads' HO174.out).2.2 | (with_reducible refine Kd.C_alloc ?_ _) | (with_reducible refine Kd.C_drewN ?_ _) | (with_reducible refine Kd.C_drew ?_))); (case side2 => exact (Kd.R_reads' HO174.out).2.1); rintro e w62 ⟨v180, rfl, ho0, hb⟩; refine ⟨_, rfl, ?_⟩; have n0_ := Aside0.mk (Kd.R_below (by (with_reducible repeat (first | apply Kd.R_alloc | apply Kd.R_drewN | apply Kd.R_drew)); exact HO174.out) hb); have n1_ := Aside0.mk (Kd.R_below (by (with_reducible repeat (first | apply Kd.R_alloc | apply Kd.R_drewN | apply Kd.R_drew)); exact HO177.out) hb); have n2_ := Aside0.mk (Kd.R_lower ho0 (below_size (by repeat (first | (with_reducible first | exact HB.out | apply below_alloc | apply pw_below_drewN | apply below_drew1) | exact HB.out)))); have n3_ := Aside0.mk (below_step (by repeat (first | (with_reducible first | exact HB.out | apply below_alloc | apply pw_below_drewN | apply below_drew1) | exact HB.out)) hb); clear HO174; clear HO177; clear HB; have HO174 := n0_; have HO177 := n1_; have HO181 := n2_; have HB := n3_; clear n0_ n1_ n2_ n3_; (try clear hb); (try clear hb2); (try clear hk); (try clear hi); (try clear ho0); obtain ⟨Ao63, co63, eo63⟩ := Kd.R_slice HO177.out; subst eo63; have p182 : 0 ≤ (0 : Int) := (by omega); have q182 : 0 < (t175.length : Int) := of_decide_eq_true (by first | (with_reducible assumption) | assumption); obtain ⟨ad182, e182, hx182_0, hx182_1, hx182_2⟩ := at_T35 (Kd.R_reads' HO177.out).2.2 0 p182 q182; (try rw [← Nbq6.out] at hx182_2); cases e182; have qi182 : (0 < t175.length) = True := eq_true (by omega); (try rw [show ((0 : Int)).toNat = 0 from rfl] at hx182_0); (try rw [show 0 * 3 = 0 from rfl] at hx182_0); (try rw [Addr.add_zero'] at hx182_0); (try rw [show ((0 : Int)).toNat = 0 from rfl] at hx182_1); (try rw [show 0 * 3 = 0 from rfl] at hx182_1); (try rw [Addr.add_zero'] at hx182_1); (try rw [show ((0 : Int)).toNat = 0 from rfl] at hx182_2); (try rw [show 0 * 3 = 0 from rfl] at hx182_2); (try rw [Addr.add_zero'] at hx182_2); replace p182 := eq_true p182; replace q182 := eq_true q182))
          go_ret
          exact ⟨by first | rfl | (simp [errW_none, errW_some] <;> rfl) | (simp [*, errW_none, errW_some] <;> rfl), by repeat (first | (with_reducible first | exact HB.out | apply below_alloc | apply pw_below_drewN | apply below_drew1) | exact HB.out)⟩
      · rw [if_neg c5] at H
        exact absurd H (by simp)
    · rw [if_neg c4] at H
      have c4b0 : ((t175.length : Int) == 2) = false := beq_eq_false_iff_ne.mpr c4
      have c4b1 : ((t175.length : Int) != 2) = true := bne_iff_ne.mpr c4
      obtain rfl := Option.some.inj H
      go_enter Try.func22, Try.ntmps22
      go_wp2_with (first | ((with_reducible refine gate_dst (N := 6) rfl ?_); (try (refine gate_guard (by rfl) ?_; dsimp only)); refine Kd.R_lit k35 _ 35 ?hg (N := 6) ?hd (xs := ([(⟨0, 8, false⟩ : S35)] : List (S35))) (inner := [.int .i64 0, .int .i64 8, .bool false]) (ok := fun _ => True) (okp := fun _ => True) ?hr ?hp (fun _ hk => hk) trivial (Below.refl _ _) (Nat.le_refl _) (by simp) ?_; (case hd => rfl); (case hg => rfl); (case hr => first | (go_simp; done) | (go_simp; rfl)); (case hp => exact (Reps.c3 (show Kd.M k35 _ _ _ (⟨0, 8, false⟩ : S35) [.int .i64 0, .int .i64 8, .bool false] from (k35_mkM _ _ _ (⟨0, 8, false⟩ : S35) )) (Reps.none _ _))); intro v173 w64 ho65 hb hg_ hnew_; clear hg_ hnew_; (first | rw [← Ny172.out] at ho65 | (simp only [Int.reduceToNat] at ho65; rw [← Ny172.out] at ho65)); have n0_ := Aside0.mk (Kd.R_lower ho65 (below_size (by repeat (first | (with_reducible first | exact HB.out | apply below_alloc | apply pw_below_drewN | apply below_drew1) | exact HB.out)))); have n1_ := Aside0.mk (below_step (by repeat (first | (with_reducible first | exact HB.out | apply below_alloc | apply pw_below_drewN | apply below_drew1) | exact HB.out)) hb); clear HB; have HO174 := n0_; have HB := n1_; clear n0_ n1_; clear hb ho65; obtain ⟨Ao66, co66, eo66⟩ := Kd.R_slice HO174.out; subst eo66) | ((with_reducible refine gate_callee (f := 23) rfl ?_); refine goesL_ (some 9) rfl rfl Try.func23 (by kernel_rfl) rfl #[.slice Ao66 y172.length co66, .int .i64 0, .int .i64 3] rfl (by (try simp only [List.map_toArray, List.map_cons, List.map_nil]); first | done | rfl | (simp only [List.length_drop, List.length_take]; rfl)) ?_; (with_reducible refine (carve_Blocks.calls k (fun k_ => some k_ = (.slice Ao66 y172.length co66 : Value).ownBlock) _ _ y172 0 3 t175 true _ ?side1 A1.out).mono ?_); (case side1 => exact Kd.R_V (Kd.R_tight rfl (HO174.out))); rintro e w67 ⟨v176, rfl, ho0, hb⟩; refine ⟨_, rfl, ?_⟩; have n0_ := Aside0.mk (Kd.R_elder' (by (with_reducible repeat (first | apply Kd.R_alloc | apply Kd.R_drewN | apply Kd.R_drew)); exact HO174.out) (Kd.R_base ho0) hb); have n1_ := Aside0.mk (Kd.R_lower (Kd.R_new' (Kd.R_mono (ok' := fun k_ => True) ho0 (fun _ hk_ => trivial)) (Kd.R_lt (by (with_reducible repeat (first | apply Kd.R_alloc | apply Kd.R_drewN | apply Kd.R_drew)); exact HO174.out))) (below_size (by repeat (first | (with_reducible first | exact HB.out | apply below_alloc | apply pw_below_drewN | apply below_drew1) | exact HB.out)))); have n2_ := Aside0.mk (below_step (by repeat (first | (with_reducible first | exact HB.out | apply below_alloc | apply pw_below_drewN | apply below_drew1) | exact HB.out)) hb); clear HO174; clear HB; have HO174 := n0_; have HO177 := n1_; have HB := n2_; clear n0_ n1_ n2_; (try clear hb); (try clear hb2); (try clear hk); (try clear hi); (try clear ho0)) | ((with_reducible refine gate_callee (f := 26) rfl ?_); refine goesL_ (some 13) rfl rfl Try.func26 (by kernel_rfl) rfl #[.slice Ao66 y172.length co66, .int .i64 0, .int .i64 3] rfl (by (try simp only [List.map_toArray, List.map_cons, List.map_nil]); first | done | rfl | (simp only [List.length_drop, List.length_take]; rfl)) ?_; (with_reducible refine (carve_Edits.calls k _ _ y172 0 3 t179 _ ?side1 ?side2 A2.out).mono ?_); (case side1 => repeat (first | exact (Kd.R_reads' HO174.out).2.2 | (with_reducible refine Kd.C_alloc ?_ _) | (with_reducible refine Kd.C_drewN ?_ _) | (with_reducible refine Kd.C_drew ?_))); (case side2 => exact (Kd.R_reads' HO174.out).2.1); rintro e w68 ⟨v180, rfl, ho0, hb⟩; refine ⟨_, rfl, ?_⟩; have n0_ := Aside0.mk (Kd.R_below (by (with_reducible repeat (first | apply Kd.R_alloc | apply Kd.R_drewN | apply Kd.R_drew)); exact HO174.out) hb); have n1_ := Aside0.mk (Kd.R_below (by (with_reducible repeat (first | apply Kd.R_alloc | apply Kd.R_drewN | apply Kd.R_drew)); exact HO177.out) hb); have n2_ := Aside0.mk (Kd.R_lower ho0 (below_size (by repeat (first | (with_reducible first | exact HB.out | apply below_alloc | apply pw_below_drewN | apply below_drew1) | exact HB.out)))); have n3_ := Aside0.mk (below_step (by repeat (first | (with_reducible first | exact HB.out | apply below_alloc | apply pw_below_drewN | apply below_drew1) | exact HB.out)) hb); clear HO174; clear HO177; clear HB; have HO174 := n0_; have HO177 := n1_; have HO181 := n2_; have HB := n3_; clear n0_ n1_ n2_ n3_; (try clear hb); (try clear hb2); (try clear hk); (try clear hi); (try clear ho0); obtain ⟨Ao69, co69, eo69⟩ := Kd.R_slice HO177.out; subst eo69))
      go_ret
      exact ⟨by first | rfl | (simp [errW_none, errW_some] <;> rfl) | (simp [*, errW_none, errW_some] <;> rfl), by repeat (first | (with_reducible first | exact HB.out | apply below_alloc | apply pw_below_drewN | apply below_drew1) | exact HB.out)⟩
  · replace c3 := Bool.eq_false_iff.mpr c3
    subst c3
    have H1 : (some false) = some r := by rw [if_neg (show ¬ (false = true) by decide)] at H; exact H
    clear H
    have H := H1
    clear H1
    obtain rfl := Option.some.inj H
    go_enter Try.func22, Try.ntmps22
    go_wp2_with (first | ((with_reducible refine gate_dst (N := 6) rfl ?_); (try (refine gate_guard (by rfl) ?_; dsimp only)); refine Kd.R_lit k35 _ 35 ?hg (N := 6) ?hd (xs := ([(⟨0, 8, false⟩ : S35)] : List (S35))) (inner := [.int .i64 0, .int .i64 8, .bool false]) (ok := fun _ => True) (okp := fun _ => True) ?hr ?hp (fun _ hk => hk) trivial (Below.refl _ _) (Nat.le_refl _) (by simp) ?_; (case hd => rfl); (case hg => rfl); (case hr => first | (go_simp; done) | (go_simp; rfl)); (case hp => exact (Reps.c3 (show Kd.M k35 _ _ _ (⟨0, 8, false⟩ : S35) [.int .i64 0, .int .i64 8, .bool false] from (k35_mkM _ _ _ (⟨0, 8, false⟩ : S35) )) (Reps.none _ _))); intro v173 w70 ho71 hb hg_ hnew_; clear hg_ hnew_; (first | rw [← Ny172.out] at ho71 | (simp only [Int.reduceToNat] at ho71; rw [← Ny172.out] at ho71)); have n0_ := Aside0.mk (Kd.R_lower ho71 (below_size (by repeat (first | (with_reducible first | exact HB.out | apply below_alloc | apply pw_below_drewN | apply below_drew1) | exact HB.out)))); have n1_ := Aside0.mk (below_step (by repeat (first | (with_reducible first | exact HB.out | apply below_alloc | apply pw_below_drewN | apply below_drew1) | exact HB.out)) hb); clear HB; have HO174 := n0_; have HB := n1_; clear n0_ n1_; clear hb ho71; obtain ⟨Ao72, co72, eo72⟩ := Kd.R_slice HO174.out; subst eo72) | ((with_reducible refine gate_callee (f := 23) rfl ?_); refine goesL_ (some 9) rfl rfl Try.func23 (by kernel_rfl) rfl #[.slice Ao72 y172.length co72, .int .i64 0, .int .i64 3] rfl (by (try simp only [List.map_toArray, List.map_cons, List.map_nil]); first | done | rfl | (simp only [List.length_drop, List.length_take]; rfl)) ?_; (with_reducible refine (carve_Blocks.calls k (fun k_ => some k_ = (.slice Ao72 y172.length co72 : Value).ownBlock) _ _ y172 0 3 t175 false _ ?side1 A1.out).mono ?_); (case side1 => exact Kd.R_V (Kd.R_tight rfl (HO174.out))); rintro e w73 ⟨v176, rfl, ho0, hb⟩; refine ⟨_, rfl, ?_⟩; have n0_ := Aside0.mk (Kd.R_elder' (by (with_reducible repeat (first | apply Kd.R_alloc | apply Kd.R_drewN | apply Kd.R_drew)); exact HO174.out) (Kd.R_base ho0) hb); have n1_ := Aside0.mk (Kd.R_lower (Kd.R_new' (Kd.R_mono (ok' := fun k_ => True) ho0 (fun _ hk_ => trivial)) (Kd.R_lt (by (with_reducible repeat (first | apply Kd.R_alloc | apply Kd.R_drewN | apply Kd.R_drew)); exact HO174.out))) (below_size (by repeat (first | (with_reducible first | exact HB.out | apply below_alloc | apply pw_below_drewN | apply below_drew1) | exact HB.out)))); have n2_ := Aside0.mk (below_step (by repeat (first | (with_reducible first | exact HB.out | apply below_alloc | apply pw_below_drewN | apply below_drew1) | exact HB.out)) hb); clear HO174; clear HB; have HO174 := n0_; have HO177 := n1_; have HB := n2_; clear n0_ n1_ n2_; (try clear hb); (try clear hb2); (try clear hk); (try clear hi); (try clear ho0)) | ((with_reducible refine gate_callee (f := 26) rfl ?_); refine goesL_ (some 13) rfl rfl Try.func26 (by kernel_rfl) rfl #[.slice Ao72 y172.length co72, .int .i64 0, .int .i64 3] rfl (by (try simp only [List.map_toArray, List.map_cons, List.map_nil]); first | done | rfl | (simp only [List.length_drop, List.length_take]; rfl)) ?_; (with_reducible refine (carve_Edits.calls k _ _ y172 0 3 t179 _ ?side1 ?side2 A2.out).mono ?_); (case side1 => repeat (first | exact (Kd.R_reads' HO174.out).2.2 | (with_reducible refine Kd.C_alloc ?_ _) | (with_reducible refine Kd.C_drewN ?_ _) | (with_reducible refine Kd.C_drew ?_))); (case side2 => exact (Kd.R_reads' HO174.out).2.1); rintro e w74 ⟨v180, rfl, ho0, hb⟩; refine ⟨_, rfl, ?_⟩; have n0_ := Aside0.mk (Kd.R_below (by (with_reducible repeat (first | apply Kd.R_alloc | apply Kd.R_drewN | apply Kd.R_drew)); exact HO174.out) hb); have n1_ := Aside0.mk (Kd.R_below (by (with_reducible repeat (first | apply Kd.R_alloc | apply Kd.R_drewN | apply Kd.R_drew)); exact HO177.out) hb); have n2_ := Aside0.mk (Kd.R_lower ho0 (below_size (by repeat (first | (with_reducible first | exact HB.out | apply below_alloc | apply pw_below_drewN | apply below_drew1) | exact HB.out)))); have n3_ := Aside0.mk (below_step (by repeat (first | (with_reducible first | exact HB.out | apply below_alloc | apply pw_below_drewN | apply below_drew1) | exact HB.out)) hb); clear HO174; clear HO177; clear HB; have HO174 := n0_; have HO177 := n1_; have HO181 := n2_; have HB := n3_; clear n0_ n1_ n2_ n3_; (try clear hb); (try clear hb2); (try clear hk); (try clear hi); (try clear ho0)))
    go_ret
    exact ⟨by first | rfl | (simp [errW_none, errW_some] <;> rfl) | (simp [*, errW_none, errW_some] <;> rfl), by repeat (first | (with_reducible first | exact HB.out | apply below_alloc | apply pw_below_drewN | apply below_drew1) | exact HB.out)⟩

/-! ### darningref4_Takes: function 30 -/
def darningref4_Takes.j0 : Nat → Int → Int → Bool → Option (Int)
  | 0, _, _, _ => none
  | k + 1, x0, x1, x5 => if x5 = true then (some 0) else (if (wrap64 (x0 - x1)) < 2 then (some x0) else (some x1))
def darningref4_Takes.f (k : Nat) (a0 : Int) (a1 : Int) : Option (Int) := if a1 < 2 then (darningref4_Takes.j0 k a0 a1 true) else (darningref4_Takes.j0 k a0 a1 (decide (a1 > a0)))
theorem darningref4_Takes.mono_l : ∀ k, (∀ y0 y1 y2, LeO (darningref4_Takes.j0 k y0 y1 y2) (darningref4_Takes.j0 (k + 1) y0 y1 y2))
  | 0 => fun _ _ _ r h => by simp [darningref4_Takes.j0] at h
  | k + 1 => by
    have ih0 := darningref4_Takes.mono_l k
    · intro y0 y1 y2
      unfold darningref4_Takes.j0
      repeat' first
      | (with_reducible exact ih0 _ _ _)
      | (with_reducible exact LeO.refl _)
      | (with_reducible exact LeO.none _)
      | (with_reducible refine LeO.ite ?_ ?_)
      | (with_reducible refine LeO.bind ?_ (fun _ => ?_))
      | exact ih0 _ _ _
      | exact LeO.none _
      | refine LeO.ite ?_ ?_
      | refine LeO.bind ?_ (fun _ => ?_)
theorem darningref4_Takes.mono : ∀ a0 a1 k, LeO (darningref4_Takes.f k a0 a1) (darningref4_Takes.f (k + 1) a0 a1) := by
  intro a0 a1 k
  have ih0 := darningref4_Takes.mono_l k
  unfold darningref4_Takes.f
  repeat' first
      | (with_reducible exact ih0 _ _ _)
      | (with_reducible exact LeO.refl _)
      | (with_reducible exact LeO.none _)
      | (with_reducible refine LeO.ite ?_ ?_)
      | (with_reducible refine LeO.bind ?_ (fun _ => ?_))
      | exact ih0 _ _ _
      | exact LeO.none _
      | refine LeO.ite ?_ ?_
      | refine LeO.bind ?_ (fun _ => ?_)
set_option maxHeartbeats 8000000 in
set_option maxRecDepth 100000 in
theorem darningref4_Takes.calls (k : Nat) (a0 : Int) (a1 : Int) (r : Int) (w : World) (h : darningref4_Takes.f k a0 a1 = some r) :
    Calls Try.prog 30 #[.int .i64 a0, .int .i64 a1] w fun e w' => e = .returned (.int .i64 r) ∧ Drawn0 w w' := by
  have H : (if a1 < 2 then (darningref4_Takes.j0 k a0 a1 true) else (darningref4_Takes.j0 k a0 a1 (decide (a1 > a0)))) = some r := h
  clear h
  have HC3 := Aside0.mk H
  clear H
  go_enter Try.func30, Try.ntmps30
  go_upto_region 1 with (fail)
  go_cut [5] (fun v5 wc => ∃ (kq : Nat) (x5_2 : Bool), v5 = .bool x5_2 ∧ Aside0 (darningref4_Takes.j0 kq a0 a1 x5_2 = some r) ∧ Aside0 (kq ≤ k) ∧ Drawn0 w wc)
  case first =>
    have H := HC3.out
    clear HC3
    by_cases c4 : a1 < 2
    · rw [if_pos c4] at H
      have c4b0 : decide (a1 < 2) = true := decide_eq_true c4
      clear c4
      (first | rw [c4b0] | (simp only [i64_w, i32_w]; rw [c4b0]) | skip)
      have H' := Aside0.mk H
      clear H
      go_wp2
      go_meet
      case rel => exact ⟨_, (true), (by first | rfl | (simp; done) | (simp [*]; done)), H', ⟨by first | omega | exact Nat.le_refl _⟩, by repeat (first | exact Drawn0.refl _ | apply Drawn0.step)⟩
    · rw [if_neg c4] at H
      have c4b0 : decide (a1 < 2) = false := decide_eq_false c4
      clear c4
      (first | rw [c4b0] | (simp only [i64_w, i32_w]; rw [c4b0]) | skip)
      have H' := Aside0.mk H
      clear H
      go_wp2
      go_meet
      case rel => exact ⟨_, (decide (a1 > a0)), (by first | rfl | (simp; done) | (simp [*]; done)), H', ⟨by first | omega | exact Nat.le_refl _⟩, by repeat (first | exact Drawn0.refl _ | apply Drawn0.step)⟩
  case rest =>
    clear HC3
    try clear p2
    try clear c3
    try clear c4
    try clear c4b0
    obtain ⟨kq, x5_2, rfl, HA, HJ2, ⟨mc2, rfl⟩⟩ := hcut
    cases kq with
    | zero => exact absurd HA.out (by simp [darningref4_Takes.j0])
    | succ kj2 =>
      have H := HA.out
      clear HA
      simp only [darningref4_Takes.j0] at H
      by_cases c5 : x5_2 = true
      · subst c5
        have H1 : (some 0) = some r := by rw [if_pos rfl] at H; exact H
        clear H
        have H := H1
        clear H1
        obtain rfl := Option.some.inj H
        go_wp2
        go_ret
        exact ⟨by first | rfl | (simp; done) | (simp [*]; done), by repeat (first | exact Drawn0.refl _ | apply Drawn0.step)⟩
      · replace c5 := Bool.eq_false_iff.mpr c5
        subst c5
        have H1 : (if (wrap64 (a0 - a1)) < 2 then (some a0) else (some a1)) = some r := by rw [if_neg (show ¬ (false = true) by decide)] at H; exact H
        clear H
        have H := H1
        clear H1
        by_cases c6 : (wrap64 (a0 - a1)) < 2
        · rw [if_pos c6] at H
          have c6b0 : decide ((wrap64 (a0 - a1)) < 2) = true := decide_eq_true c6
          clear c6
          obtain rfl := Option.some.inj H
          go_wp2
          go_ret
          exact ⟨by first | rfl | (simp; done) | (simp [*]; done), by repeat (first | exact Drawn0.refl _ | apply Drawn0.step)⟩
        · rw [if_neg c6] at H
          have c6b0 : decide ((wrap64 (a0 - a1)) < 2) = false := decide_eq_false c6
          clear c6
          obtain rfl := Option.some.inj H
          go_wp2
          go_ret
          exact ⟨by first | rfl | (simp; done) | (simp [*]; done), by repeat (first | exact Drawn0.refl _ | apply Drawn0.step)⟩

/-! ### darningref4_counted: function 65 -/
def darningref4_counted.l0 : Nat → List (S35) → List (S35) → Int → Int → Option (Bool)
  | 0, _, _, _, _ => none
  | k + 1, x0, x5, x6, x7 => if x7 < x6 then (if 0 ≤ x7 then (if x7 < (x5.length : Int) then ((darningref4_MaySize.f ((rd_T35 x5 x7).f1)).bind fun t191 => (if t191 = true then (darningref4_counted.l0 k x0 x5 x6 (wrap64 (x7 + 1))) else (some false))) else (none)) else (none)) else (some (decide ((x0.length : Int) ≤ 512)))
def darningref4_counted.f (k : Nat) (l0 : List (S35)) : Option (Bool) := darningref4_counted.l0 k l0 l0 (l0.length : Int) 0
theorem darningref4_counted.mono_l : ∀ k, (∀ y0 y1 y2 y3, LeO (darningref4_counted.l0 k y0 y1 y2 y3) (darningref4_counted.l0 (k + 1) y0 y1 y2 y3))
  | 0 => fun _ _ _ _ r h => by simp [darningref4_counted.l0] at h
  | k + 1 => by
    have ih0 := darningref4_counted.mono_l k
    · intro y0 y1 y2 y3
      unfold darningref4_counted.l0
      repeat' first
      | (with_reducible exact ih0 _ _ _ _)
      | (with_reducible exact LeO.refl _)
      | (with_reducible exact LeO.none _)
      | (with_reducible refine LeO.ite ?_ ?_)
      | (with_reducible refine LeO.bind ?_ (fun _ => ?_))
      | exact ih0 _ _ _ _
      | exact LeO.none _
      | refine LeO.ite ?_ ?_
      | refine LeO.bind ?_ (fun _ => ?_)
theorem darningref4_counted.mono : ∀ a0 k, LeO (darningref4_counted.f k a0) (darningref4_counted.f (k + 1) a0) := by
  intro a0 k
  have ih0 := darningref4_counted.mono_l k
  unfold darningref4_counted.f
  repeat' first
      | (with_reducible exact ih0 _ _ _ _)
      | (with_reducible exact LeO.refl _)
      | (with_reducible exact LeO.none _)
      | (with_reducible refine LeO.ite ?_ ?_)
      | (with_reducible refine LeO.bind ?_ (fun _ => ?_))
      | exact ih0 _ _ _ _
      | exact LeO.none _
      | refine LeO.ite ?_ ?_
      | refine LeO.bind ?_ (fun _ => ?_)
set_option maxHeartbeats 8000000 in
set_option maxRecDepth 100000 in
theorem darningref4_counted.calls (k : Nat) (A0 : Option Addr) (c0 : Nat) (l0 : List (S35)) (r : Bool) (w : World) (hr0 : Kd.C k35 w A0 l0.length l0) (hc0 : l0.length ≤ c0) (h : darningref4_counted.f k l0 = some r) :
    Calls Try.prog 65 #[.slice A0 l0.length c0] w fun e w' => e = .returned (.bool r) ∧ Below w.heap.size w w' := by
  have hu35 := Try.underlying35
  have HR0 := Aside0.mk hr0
  have HC0 := Aside0.mk hc0
  clear hr0 hc0
  have HB := Aside0.mk (Below.refl w.heap.size w)
  have H : (darningref4_counted.l0 k l0 l0 (l0.length : Int) 0) = some r := h
  clear h
  have H' := Aside0.mk H
  clear H
  go_enter Try.func65, Try.ntmps65
  go_wp2
  go_loopg [7] k (fun kq v7 w' => ∃ (x7_1 : Int), v7 = .int .i64 x7_1 ∧ Aside0 (darningref4_counted.l0 kq l0 l0 (l0.length : Int) x7_1 = some r) ∧ Aside0 (kq ≤ k) ∧ Aside0 (Below w.heap.size w w'))
  case atStart => exact ⟨(0), (by first | rfl | (simp; done) | (simp [*]; done)), H', ⟨Nat.le_refl _⟩, ⟨by repeat (first | (with_reducible first | exact HB.out | apply below_alloc | apply pw_below_drewN | apply below_drew1) | exact HB.out)⟩⟩
  case round =>
    clear H'
    obtain ⟨x7_1, rfl, HA, HK1, HB⟩ := hrel
    cases gk with
    | zero => exact absurd HA.out (by simp [darningref4_counted.l0])
    | succ k1 =>
      have H := HA.out
      clear HA
      simp only [darningref4_counted.l0] at H
      by_cases c2 : x7_1 < (l0.length : Int)
      · rw [if_pos c2] at H
        have c2b0 : decide (x7_1 < (l0.length : Int)) = true := decide_eq_true c2
        clear c2
        by_cases c3 : 0 ≤ x7_1
        · rw [if_pos c3] at H
          have c3b0 : decide (0 ≤ x7_1) = true := decide_eq_true c3
          clear c3
          by_cases c4 : x7_1 < (l0.length : Int)
          · rw [if_pos c4] at H
            have c4b0 : decide (x7_1 < (l0.length : Int)) = true := decide_eq_true c4
            clear c4
            replace H := Option.bind_eq_some_iff.mp H
            obtain ⟨t191, A50, H⟩ := H
            replace H : (if t191 = true then (darningref4_counted.l0 k1 l0 l0 (l0.length : Int) (wrap64 (x7_1 + 1))) else (some false)) = some r := H
            have A5 := Aside0.mk A50
            clear A50
            by_cases c6 : t191 = true
            · subst c6
              have H1 : (darningref4_counted.l0 k1 l0 l0 (l0.length : Int) (wrap64 (x7_1 + 1))) = some r := by rw [if_pos rfl] at H; exact H
              clear H
              have H := H1
              clear H1
              have H' := Aside0.mk H
              clear H
              have p189 : 0 ≤ (x7_1 : Int) := of_decide_eq_true (by first | (with_reducible assumption) | assumption)
              have q189 : x7_1 < (l0.length : Int) := of_decide_eq_true (by first | (with_reducible assumption) | assumption)
              obtain ⟨ad189, e189, hx189_0, hx189_1, hx189_2⟩ := at_T35 HR0.out x7_1 p189 q189
              cases e189
              replace hx189_0 := (HB.out.cell (World.block_lt_of_cell? w _ hx189_0)).trans hx189_0
              replace hx189_1 := (HB.out.cell (World.block_lt_of_cell? w _ hx189_1)).trans hx189_1
              replace hx189_2 := (HB.out.cell (World.block_lt_of_cell? w _ hx189_2)).trans hx189_2
              replace p189 := eq_true p189
              replace q189 := eq_true q189
              go_wp2_with (first | ((with_reducible refine gate_dst (N := 4) rfl ?_); refine box_event ?hg (N := 4) ?hd (cs := #[.int .i64 0, .int .i64 0, .bool false]) (t := 35) ?hr ?_; (case hd => rfl); (case hg => rfl); (case hr => first | (go_simp; done) | (go_simp; rfl)); intro gb190 hg w7 hbox hb; have n0_ := Aside0.mk (below_step (by repeat (first | (with_reducible first | exact HB.out | apply below_alloc | apply pw_below_drewN | apply below_drew1) | exact HB.out)) hb); have n1_ := Aside0.mk (hbox); have n2_ := Aside0.mk ((by rw [hg]; exact (below_size (by repeat (first | (with_reducible first | exact HB.out | apply below_alloc | apply pw_below_drewN | apply below_drew1) | exact HB.out))) : w.heap.size ≤ gb190)); have n3_ := Aside0.mk ((by rw [hg]; exact (below_size (by repeat (first | (with_reducible first | exact HB.out | apply below_alloc | apply pw_below_drewN | apply below_drew1) | exact HB.out))) : w.heap.size ≤ gb190)); clear HB; have HB := n0_; have BK190 := n1_; have GW190 := n2_; have GE190 := n3_; clear n0_ n1_ n2_ n3_; clear hb hbox hg; have hcz8_0 : w7.cell? ⟨gb190, 0, none⟩ = some (.int .i64 0) := (blk_cell BK190.out 0).trans rfl; have hcz8_1 : w7.cell? ⟨gb190, 1, none⟩ = some (.int .i64 0) := (blk_cell BK190.out 1).trans rfl; have hcz8_2 : w7.cell? ⟨gb190, 2, none⟩ = some (.bool false) := (blk_cell BK190.out 2).trans rfl; have hfz8_0 := blk_frozen BK190.out 0; have hfz8_1 := blk_frozen BK190.out 1; have hfz8_2 := blk_frozen BK190.out 2) | ((with_reducible refine gate_callee (f := 62) rfl ?_); refine goesL_ (some 13) rfl rfl Try.func62 (by kernel_rfl) rfl #[.int .i64 ((rd_T35 l0 x7_1).f1)] rfl (by (try simp only [List.map_toArray, List.map_cons, List.map_nil]); first | done | rfl | (simp only [List.length_drop, List.length_take]; rfl)) ?_; (with_reducible refine (darningref4_MaySize.calls ((rd_T35 l0 x7_1).f1) true _ A5.out).mono ?_); rintro e w' ⟨rfl, ⟨nd, rfl⟩⟩; refine ⟨_, rfl, ?_⟩))
              go_roundg k1
              case measure => have := HK1.out; omega
              case rel => exact ⟨(wrap64 (x7_1 + 1)), (by first | rfl | (simp; done) | (simp [*]; done)), H', ⟨by have := HK1.out; omega⟩, ⟨by repeat (first | (with_reducible first | exact HB.out | apply below_alloc | apply pw_below_drewN | apply below_drew1 | refine below_set ?_ GE190.out) | exact HB.out)⟩⟩
            · replace c6 := Bool.eq_false_iff.mpr c6
              subst c6
              have H1 : (some false) = some r := by rw [if_neg (show ¬ (false = true) by decide)] at H; exact H
              clear H
              have H := H1
              clear H1
              obtain rfl := Option.some.inj H
              have p189 : 0 ≤ (x7_1 : Int) := of_decide_eq_true (by first | (with_reducible assumption) | assumption)
              have q189 : x7_1 < (l0.length : Int) := of_decide_eq_true (by first | (with_reducible assumption) | assumption)
              obtain ⟨ad189, e189, hx189_0, hx189_1, hx189_2⟩ := at_T35 HR0.out x7_1 p189 q189
              cases e189
              replace hx189_0 := (HB.out.cell (World.block_lt_of_cell? w _ hx189_0)).trans hx189_0
              replace hx189_1 := (HB.out.cell (World.block_lt_of_cell? w _ hx189_1)).trans hx189_1
              replace hx189_2 := (HB.out.cell (World.block_lt_of_cell? w _ hx189_2)).trans hx189_2
              replace p189 := eq_true p189
              replace q189 := eq_true q189
              go_wp2_with (first | ((with_reducible refine gate_dst (N := 4) rfl ?_); refine box_event ?hg (N := 4) ?hd (cs := #[.int .i64 0, .int .i64 0, .bool false]) (t := 35) ?hr ?_; (case hd => rfl); (case hg => rfl); (case hr => first | (go_simp; done) | (go_simp; rfl)); intro gb190 hg w9 hbox hb; have n0_ := Aside0.mk (below_step (by repeat (first | (with_reducible first | exact HB.out | apply below_alloc | apply pw_below_drewN | apply below_drew1) | exact HB.out)) hb); have n1_ := Aside0.mk (hbox); have n2_ := Aside0.mk ((by rw [hg]; exact (below_size (by repeat (first | (with_reducible first | exact HB.out | apply below_alloc | apply pw_below_drewN | apply below_drew1) | exact HB.out))) : w.heap.size ≤ gb190)); have n3_ := Aside0.mk ((by rw [hg]; exact (below_size (by repeat (first | (with_reducible first | exact HB.out | apply below_alloc | apply pw_below_drewN | apply below_drew1) | exact HB.out))) : w.heap.size ≤ gb190)); clear HB; have HB := n0_; have BK190 := n1_; have GW190 := n2_; have GE190 := n3_; clear n0_ n1_ n2_ n3_; clear hb hbox hg; have hcz10_0 : w9.cell? ⟨gb190, 0, none⟩ = some (.int .i64 0) := (blk_cell BK190.out 0).trans rfl; have hcz10_1 : w9.cell? ⟨gb190, 1, none⟩ = some (.int .i64 0) := (blk_cell BK190.out 1).trans rfl; have hcz10_2 : w9.cell? ⟨gb190, 2, none⟩ = some (.bool false) := (blk_cell BK190.out 2).trans rfl; have hfz10_0 := blk_frozen BK190.out 0; have hfz10_1 := blk_frozen BK190.out 1; have hfz10_2 := blk_frozen BK190.out 2) | ((with_reducible refine gate_callee (f := 62) rfl ?_); refine goesL_ (some 13) rfl rfl Try.func62 (by kernel_rfl) rfl #[.int .i64 ((rd_T35 l0 x7_1).f1)] rfl (by (try simp only [List.map_toArray, List.map_cons, List.map_nil]); first | done | rfl | (simp only [List.length_drop, List.length_take]; rfl)) ?_; (with_reducible refine (darningref4_MaySize.calls ((rd_T35 l0 x7_1).f1) false _ A5.out).mono ?_); rintro e w' ⟨rfl, ⟨nd, rfl⟩⟩; refine ⟨_, rfl, ?_⟩))
              go_ret
              exact ⟨by first | rfl | (simp [errW_none, errW_some] <;> rfl) | (simp [*, errW_none, errW_some] <;> rfl), by repeat (first | (with_reducible first | exact HB.out | apply below_alloc | apply pw_below_drewN | apply below_drew1 | refine below_set ?_ GE190.out) | exact HB.out)⟩
          · rw [if_neg c4] at H
            exact absurd H (by simp)
        · rw [if_neg c3] at H
          exact absurd H (by simp)
      · rw [if_neg c2] at H
        have c2b0 : decide (x7_1 < (l0.length : Int)) = false := decide_eq_false c2
        clear c2
        obtain rfl := Option.some.inj H
        go_wp2
        go_ret
        exact ⟨by first | rfl | (simp [errW_none, errW_some] <;> rfl) | (simp [*, errW_none, errW_some] <;> rfl), by repeat (first | (with_reducible first | exact HB.out | apply below_alloc | apply pw_below_drewN | apply below_drew1) | exact HB.out)⟩

/-! ### darningref4_FreeWords: function 31 -/
def darningref4_FreeWords.l0 : Nat → Int → List (S35) → Int → Int → Option (Int)
  | 0, _, _, _, _ => none
  | k + 1, x3, x9, x10, x11 => if x11 < x10 then (if 0 ≤ x11 then (if x11 < (x9.length : Int) then (if ((rd_T35 x9 x11).f2 = true) then (darningref4_FreeWords.l0 k x3 x9 x10 (wrap64 (x11 + 1))) else (darningref4_FreeWords.l0 k (wrap64 (x3 + ((rd_T35 x9 x11).f1))) x9 x10 (wrap64 (x11 + 1)))) else (none)) else (none)) else (some x3)
def darningref4_FreeWords.f (k : Nat) (l0 : List (S35)) : Option (Int) := (darningref4_counted.f k l0).bind fun t192 => (if t192 = true then (darningref4_FreeWords.l0 k 0 l0 (l0.length : Int) 0) else (some 0))
theorem darningref4_FreeWords.mono_l : ∀ k, (∀ y0 y1 y2 y3, LeO (darningref4_FreeWords.l0 k y0 y1 y2 y3) (darningref4_FreeWords.l0 (k + 1) y0 y1 y2 y3))
  | 0 => fun _ _ _ _ r h => by simp [darningref4_FreeWords.l0] at h
  | k + 1 => by
    have ih0 := darningref4_FreeWords.mono_l k
    · intro y0 y1 y2 y3
      unfold darningref4_FreeWords.l0
      repeat' first
      | (with_reducible exact ih0 _ _ _ _)
      | (with_reducible exact darningref4_counted.mono _ _)
      | (with_reducible exact LeO.refl _)
      | (with_reducible exact LeO.none _)
      | (with_reducible refine LeO.ite ?_ ?_)
      | (with_reducible refine LeO.bind ?_ (fun _ => ?_))
      | exact ih0 _ _ _ _
      | exact darningref4_counted.mono _ _
      | exact LeO.none _
      | refine LeO.ite ?_ ?_
      | refine LeO.bind ?_ (fun _ => ?_)
theorem darningref4_FreeWords.mono : ∀ a0 k, LeO (darningref4_FreeWords.f k a0) (darningref4_FreeWords.f (k + 1) a0) := by
  intro a0 k
  have ih0 := darningref4_FreeWords.mono_l k
  unfold darningref4_FreeWords.f
  repeat' first
      | (with_reducible exact ih0 _ _ _ _)
      | (with_reducible exact darningref4_counted.mono _ _)
      | (with_reducible exact LeO.refl _)
      | (with_reducible exact LeO.none _)
      | (with_reducible refine LeO.ite ?_ ?_)
      | (with_reducible refine LeO.bind ?_ (fun _ => ?_))
      | exact ih0 _ _ _ _
      | exact darningref4_counted.mono _ _
      | exact LeO.none _
      | refine LeO.ite ?_ ?_
      | refine LeO.bind ?_ (fun _ => ?_)
set_option maxHeartbeats 8000000 in
set_option maxRecDepth 100000 in
theorem darningref4_FreeWords.calls (k : Nat) (A0 : Option Addr) (c0 : Nat) (l0 : List (S35)) (r : Int) (w : World) (hr0 : Kd.C k35 w A0 l0.length l0) (hc0 : l0.length ≤ c0) (h : darningref4_FreeWords.f k l0 = some r) :
    Calls Try.prog 31 #[.slice A0 l0.length c0] w fun e w' => e = .returned (.int .i64 r) ∧ Below w.heap.size w w' := by
  have hu35 := Try.underlying35
  have HR0 := Aside0.mk hr0
  have HC0 := Aside0.mk hc0
  clear hr0 hc0
  have HB := Aside0.mk (Below.refl w.heap.size w)
  have H : ((darningref4_counted.f k l0).bind fun t192 => (if t192 = true then (darningref4_FreeWords.l0 k 0 l0 (l0.length : Int) 0) else (some 0))) = some r := h
  clear h
  replace H := Option.bind_eq_some_iff.mp H
  obtain ⟨t192, A20, H⟩ := H
  replace H : (if t192 = true then (darningref4_FreeWords.l0 k 0 l0 (l0.length : Int) 0) else (some 0)) = some r := H
  have A2 := Aside0.mk A20
  clear A20
  by_cases c3 : t192 = true
  · subst c3
    have H1 : (darningref4_FreeWords.l0 k 0 l0 (l0.length : Int) 0) = some r := by rw [if_pos rfl] at H; exact H
    clear H
    have H := H1
    clear H1
    have H' := Aside0.mk H
    clear H
    go_enter Try.func31, Try.ntmps31
    go_wp2_with (first | ((with_reducible refine gate_callee (f := 65) rfl ?_); refine goesL_ (some 7) rfl rfl Try.func65 (by kernel_rfl) rfl #[.slice A0 l0.length c0] rfl (by (try simp only [List.map_toArray, List.map_cons, List.map_nil]); first | done | rfl | (simp only [List.length_drop, List.length_take]; rfl)) ?_; (with_reducible refine (darningref4_counted.calls k _ _ l0 true _ ?side1 ?side2 A2.out).mono ?_); (case side1 => repeat (first | exact HR0.out | (with_reducible refine Kd.C_alloc ?_ _) | (with_reducible refine Kd.C_drewN ?_ _) | (with_reducible refine Kd.C_drew ?_))); (case side2 => exact HC0.out); rintro e w4 ⟨rfl, hb⟩; refine ⟨_, rfl, ?_⟩; have n0_ := Aside0.mk (below_step (by repeat (first | (with_reducible first | exact HB.out | apply below_alloc | apply pw_below_drewN | apply below_drew1) | exact HB.out)) hb); clear HB; have HB := n0_; clear n0_; (try clear hb); (try clear hb2); (try clear hk); (try clear hi)))
    go_loopg [3, 11] k (fun kq v3 v11 w' => ∃ (x3_1 : Int) (x11_1 : Int), v3 = .int .i64 x3_1 ∧ v11 = .int .i64 x11_1 ∧ Aside0 (darningref4_FreeWords.l0 kq x3_1 l0 (l0.length : Int) x11_1 = some r) ∧ Aside0 (kq ≤ k) ∧ Aside0 (Below w.heap.size w w'))
    case atStart => exact ⟨(0), (0), (by first | rfl | (simp; done) | (simp [*]; done)), (by first | rfl | (simp; done) | (simp [*]; done)), H', ⟨Nat.le_refl _⟩, ⟨by repeat (first | (with_reducible first | exact HB.out | apply below_alloc | apply pw_below_drewN | apply below_drew1) | exact HB.out)⟩⟩
    case round =>
      clear H'
      try clear p2
      try clear c3
      obtain ⟨x3_1, x11_1, rfl, rfl, HA, HK1, HB⟩ := hrel
      cases gk with
      | zero => exact absurd HA.out (by simp [darningref4_FreeWords.l0])
      | succ k1 =>
        have H := HA.out
        clear HA
        simp only [darningref4_FreeWords.l0] at H
        by_cases c5 : x11_1 < (l0.length : Int)
        · rw [if_pos c5] at H
          have c5b0 : decide (x11_1 < (l0.length : Int)) = true := decide_eq_true c5
          clear c5
          by_cases c6 : 0 ≤ x11_1
          · rw [if_pos c6] at H
            have c6b0 : decide (0 ≤ x11_1) = true := decide_eq_true c6
            clear c6
            by_cases c7 : x11_1 < (l0.length : Int)
            · rw [if_pos c7] at H
              have c7b0 : decide (x11_1 < (l0.length : Int)) = true := decide_eq_true c7
              clear c7
              first | (generalize hbq8 : (rd_T35 l0 x11_1).f2 = bq8 at *; replace hbq8 := hbq8.symm) | (obtain ⟨bq8, hbq8⟩ : ∃ b_ : Bool, b_ = ((rd_T35 l0 x11_1).f2) := ⟨_, rfl⟩)
              replace H : (if (bq8 = true) then (darningref4_FreeWords.l0 k1 x3_1 l0 (l0.length : Int) (wrap64 (x11_1 + 1))) else (darningref4_FreeWords.l0 k1 (wrap64 (x3_1 + ((rd_T35 l0 x11_1).f1))) l0 (l0.length : Int) (wrap64 (x11_1 + 1)))) = some r := by first | exact H | (rw [← hbq8] at H; exact H)
              have Nbq8 := Aside0.mk hbq8
              clear hbq8
              (try rw [← Nbq8.out])
              by_cases c9 : (bq8 = true)
              · subst c9
                have H1 : (darningref4_FreeWords.l0 k1 x3_1 l0 (l0.length : Int) (wrap64 (x11_1 + 1))) = some r := by rw [if_pos rfl] at H; exact H
                clear H
                have H := H1
                clear H1
                have H' := Aside0.mk H
                clear H
                have p193 : 0 ≤ (x11_1 : Int) := of_decide_eq_true (by first | (with_reducible assumption) | assumption)
                have q193 : x11_1 < (l0.length : Int) := of_decide_eq_true (by first | (with_reducible assumption) | assumption)
                obtain ⟨ad193, e193, hx193_0, hx193_1, hx193_2⟩ := at_T35 HR0.out x11_1 p193 q193
                (try rw [← Nbq8.out] at hx193_2)
                cases e193
                replace hx193_0 := (HB.out.cell (World.block_lt_of_cell? w _ hx193_0)).trans hx193_0
                replace hx193_1 := (HB.out.cell (World.block_lt_of_cell? w _ hx193_1)).trans hx193_1
                replace hx193_2 := (HB.out.cell (World.block_lt_of_cell? w _ hx193_2)).trans hx193_2
                replace p193 := eq_true p193
                replace q193 := eq_true q193
                go_wp2_with (first | ((with_reducible refine gate_dst (N := 5) rfl ?_); refine box_event ?hg (N := 5) ?hd (cs := #[.int .i64 0, .int .i64 0, .bool false]) (t := 35) ?hr ?_; (case hd => rfl); (case hg => rfl); (case hr => first | (go_simp; done) | (go_simp; rfl)); intro gb194 hg w10 hbox hb; have n0_ := Aside0.mk (below_step (by repeat (first | (with_reducible first | exact HB.out | apply below_alloc | apply pw_below_drewN | apply below_drew1) | exact HB.out)) hb); have n1_ := Aside0.mk (hbox); have n2_ := Aside0.mk ((by rw [hg]; exact (below_size (by repeat (first | (with_reducible first | exact HB.out | apply below_alloc | apply pw_below_drewN | apply below_drew1) | exact HB.out))) : w.heap.size ≤ gb194)); have n3_ := Aside0.mk ((by rw [hg]; exact (below_size (by repeat (first | (with_reducible first | exact HB.out | apply below_alloc | apply pw_below_drewN | apply below_drew1) | exact HB.out))) : w.heap.size ≤ gb194)); clear HB; have HB := n0_; have BK194 := n1_; have GW194 := n2_; have GE194 := n3_; clear n0_ n1_ n2_ n3_; clear hb hbox hg; have hcz11_0 : w10.cell? ⟨gb194, 0, none⟩ = some (.int .i64 0) := (blk_cell BK194.out 0).trans rfl; have hcz11_1 : w10.cell? ⟨gb194, 1, none⟩ = some (.int .i64 0) := (blk_cell BK194.out 1).trans rfl; have hcz11_2 : w10.cell? ⟨gb194, 2, none⟩ = some (.bool false) := (blk_cell BK194.out 2).trans rfl; have hfz11_0 := blk_frozen BK194.out 0; have hfz11_1 := blk_frozen BK194.out 1; have hfz11_2 := blk_frozen BK194.out 2))
                go_roundg k1
                case measure => have := HK1.out; omega
                case rel => exact ⟨(x3_1), (wrap64 (x11_1 + 1)), (by first | rfl | (simp; done) | (simp [*]; done)), (by first | rfl | (simp; done) | (simp [*]; done)), H', ⟨by have := HK1.out; omega⟩, ⟨by repeat (first | (with_reducible first | exact HB.out | apply below_alloc | apply pw_below_drewN | apply below_drew1 | refine below_set ?_ GE194.out) | exact HB.out)⟩⟩
              · replace c9 := Bool.eq_false_iff.mpr c9
                subst c9
                have H1 : (darningref4_FreeWords.l0 k1 (wrap64 (x3_1 + ((rd_T35 l0 x11_1).f1))) l0 (l0.length : Int) (wrap64 (x11_1 + 1))) = some r := by rw [if_neg (show ¬ (false = true) by decide)] at H; exact H
                clear H
                have H := H1
                clear H1
                have H' := Aside0.mk H
                clear H
                have p193 : 0 ≤ (x11_1 : Int) := of_decide_eq_true (by first | (with_reducible assumption) | assumption)
                have q193 : x11_1 < (l0.length : Int) := of_decide_eq_true (by first | (with_reducible assumption) | assumption)
                obtain ⟨ad193, e193, hx193_0, hx193_1, hx193_2⟩ := at_T35 HR0.out x11_1 p193 q193
                (try rw [← Nbq8.out] at hx193_2)
                cases e193
                replace hx193_0 := (HB.out.cell (World.block_lt_of_cell? w _ hx193_0)).trans hx193_0
                replace hx193_1 := (HB.out.cell (World.block_lt_of_cell? w _ hx193_1)).trans hx193_1
                replace hx193_2 := (HB.out.cell (World.block_lt_of_cell? w _ hx193_2)).trans hx193_2
                replace p193 := eq_true p193
                replace q193 := eq_true q193
                go_wp2_with (first | ((with_reducible refine gate_dst (N := 5) rfl ?_); refine box_event ?hg (N := 5) ?hd (cs := #[.int .i64 0, .int .i64 0, .bool false]) (t := 35) ?hr ?_; (case hd => rfl); (case hg => rfl); (case hr => first | (go_simp; done) | (go_simp; rfl)); intro gb194 hg w12 hbox hb; have n0_ := Aside0.mk (below_step (by repeat (first | (with_reducible first | exact HB.out | apply below_alloc | apply pw_below_drewN | apply below_drew1) | exact HB.out)) hb); have n1_ := Aside0.mk (hbox); have n2_ := Aside0.mk ((by rw [hg]; exact (below_size (by repeat (first | (with_reducible first | exact HB.out | apply below_alloc | apply pw_below_drewN | apply below_drew1) | exact HB.out))) : w.heap.size ≤ gb194)); have n3_ := Aside0.mk ((by rw [hg]; exact (below_size (by repeat (first | (with_reducible first | exact HB.out | apply below_alloc | apply pw_below_drewN | apply below_drew1) | exact HB.out))) : w.heap.size ≤ gb194)); clear HB; have HB := n0_; have BK194 := n1_; have GW194 := n2_; have GE194 := n3_; clear n0_ n1_ n2_ n3_; clear hb hbox hg; have hcz13_0 : w12.cell? ⟨gb194, 0, none⟩ = some (.int .i64 0) := (blk_cell BK194.out 0).trans rfl; have hcz13_1 : w12.cell? ⟨gb194, 1, none⟩ = some (.int .i64 0) := (blk_cell BK194.out 1).trans rfl; have hcz13_2 : w12.cell? ⟨gb194, 2, none⟩ = some (.bool false) := (blk_cell BK194.out 2).trans rfl; have hfz13_0 := blk_frozen BK194.out 0; have hfz13_1 := blk_frozen BK194.out 1; have hfz13_2 := blk_frozen BK194.out 2))
                go_roundg k1
                case measure => have := HK1.out; omega
                case rel => exact ⟨(wrap64 (x3_1 + ((rd_T35 l0 x11_1).f1))), (wrap64 (x11_1 + 1)), (by first | rfl | (simp; done) | (simp [*]; done)), (by first | rfl | (simp; done) | (simp [*]; done)), H', ⟨by have := HK1.out; omega⟩, ⟨by repeat (first | (with_reducible first | exact HB.out | apply below_alloc | apply pw_below_drewN | apply below_drew1 | refine below_set ?_ GE194.out) | exact HB.out)⟩⟩
            · rw [if_neg c7] at H
              exact absurd H (by simp)
          · rw [if_neg c6] at H
            exact absurd H (by simp)
        · rw [if_neg c5] at H
          have c5b0 : decide (x11_1 < (l0.length : Int)) = false := decide_eq_false c5
          clear c5
          obtain rfl := Option.some.inj H
          go_wp2
          go_ret
          exact ⟨by first | rfl | (simp [errW_none, errW_some] <;> rfl) | (simp [*, errW_none, errW_some] <;> rfl), by repeat (first | (with_reducible first | exact HB.out | apply below_alloc | apply pw_below_drewN | apply below_drew1) | exact HB.out)⟩
  · replace c3 := Bool.eq_false_iff.mpr c3
    subst c3
    have H1 : (some 0) = some r := by rw [if_neg (show ¬ (false = true) by decide)] at H; exact H
    clear H
    have H := H1
    clear H1
    obtain rfl := Option.some.inj H
    go_enter Try.func31, Try.ntmps31
    go_wp2_with (first | ((with_reducible refine gate_callee (f := 65) rfl ?_); refine goesL_ (some 7) rfl rfl Try.func65 (by kernel_rfl) rfl #[.slice A0 l0.length c0] rfl (by (try simp only [List.map_toArray, List.map_cons, List.map_nil]); first | done | rfl | (simp only [List.length_drop, List.length_take]; rfl)) ?_; (with_reducible refine (darningref4_counted.calls k _ _ l0 false _ ?side1 ?side2 A2.out).mono ?_); (case side1 => repeat (first | exact HR0.out | (with_reducible refine Kd.C_alloc ?_ _) | (with_reducible refine Kd.C_drewN ?_ _) | (with_reducible refine Kd.C_drew ?_))); (case side2 => exact HC0.out); rintro e w14 ⟨rfl, hb⟩; refine ⟨_, rfl, ?_⟩; have n0_ := Aside0.mk (below_step (by repeat (first | (with_reducible first | exact HB.out | apply below_alloc | apply pw_below_drewN | apply below_drew1) | exact HB.out)) hb); clear HB; have HB := n0_; clear n0_; (try clear hb); (try clear hb2); (try clear hk); (try clear hi)))
    go_ret
    exact ⟨by first | rfl | (simp [errW_none, errW_some] <;> rfl) | (simp [*, errW_none, errW_some] <;> rfl), by repeat (first | (with_reducible first | exact HB.out | apply below_alloc | apply pw_below_drewN | apply below_drew1) | exact HB.out)⟩

end Go.Proofs.Ytglekonhdjploaa.XCarveCounts
