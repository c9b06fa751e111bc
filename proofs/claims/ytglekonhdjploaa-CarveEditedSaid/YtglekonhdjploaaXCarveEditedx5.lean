-- Laid by this session's own printer (wip/xprint.py): each Go function that the law reaches as a plain Lean function, and that the call comes to it.
import Derived.Test.YtglekonhdjploaaXCarveEditedx0
import Derived.Test.YtglekonhdjploaaXCarveEditedx2
import Derived.Test.YtglekonhdjploaaXCarveEditedx4
namespace Go.Proofs.Ytglekonhdjploaa.XCarveEdited
open Go.RowKit Go.Proofs.YtglekonhdjploaaW.PrintWords Go.Proofs.YtglekonhdjploaaW.PrintLast Go.Proofs.YtglekonhdjploaaW.PrintMore
attribute [local go_sem] max2_int min2_int max_two min_two max_three min_three max_four min_four   -- for this text's walks alone
set_option linter.unusedVariables false
set_option linter.unusedSimpArgs false

/-! ### darninglaw16_awake: function 22 -/
def darninglaw16_awake.f (k : Nat)  : Option (Bool) := (some (([(⟨0, 8, false⟩ : S35)] : List (S35)) : List (S35))).bind fun y174 => ((carve_Blocks.f k y174 0 3).bind fun bt177 => ((carve_Edits.f k y174 0 3).bind fun t181 => (if bt177.2 = true then (if (bt177.1.length : Int) = 2 then (if 0 < (bt177.1.length : Int) then (if (rd_T35 bt177.1 0).f2 = true then (if ((rd_T35 bt177.1 0).f1) = 3 then (if 1 < (bt177.1.length : Int) then (if ((rd_T35 bt177.1 1).f0) = 3 then (if (t181.length : Int) = 4 then (if 0 < (t181.length : Int) then (if ((rd_T30 t181 0).f1) = 7 then (if 3 < (t181.length : Int) then (if ((rd_T30 t181 3).f1) = 10 then ((carve_Off.f ((rd_T35 bt177.1 0).f0) ((rd_T35 bt177.1 0).f1) ((rd_T35 bt177.1 0).f2)).bind fun t190 => (some (t190 == 8))) else (some false)) else (none)) else (some false)) else (none)) else (some false)) else (some false)) else (none)) else (some false)) else (some false)) else (none)) else (some false)) else (some false))))
theorem darninglaw16_awake.mono : ∀ k, LeO (darninglaw16_awake.f k ) (darninglaw16_awake.f (k + 1) ) := by
  intro  k
  unfold darninglaw16_awake.f
  repeat' first
      | (with_reducible exact carve_Blocks.mono _ _ _ _)
      | (with_reducible exact carve_Edits.mono _ _ _ _)
      | (with_reducible exact LeO.refl _)
      | (with_reducible exact LeO.none _)
      | (with_reducible refine LeO.ite ?_ ?_)
      | (with_reducible refine LeO.bind ?_ (fun _ => ?_))
      | exact carve_Blocks.mono _ _ _ _
      | exact carve_Edits.mono _ _ _ _
      | exact LeO.none _
      | refine LeO.ite ?_ ?_
      | refine LeO.bind ?_ (fun _ => ?_)
set_option maxHeartbeats 8000000 in
set_option maxRecDepth 100000 in
theorem darninglaw16_awake.calls (k : Nat)  (r : Bool) (w : World) (h : darninglaw16_awake.f k  = some r) :
    Calls Try.prog 22 #[] w fun e w' => e = .returned (.bool r) ∧ Below w.heap.size w w' := by
  have hu35 := Try.underlying35
  have HB := Aside0.mk (Below.refl w.heap.size w)
  have H : ((some (([(⟨0, 8, false⟩ : S35)] : List (S35)) : List (S35))).bind fun y174 => ((carve_Blocks.f k y174 0 3).bind fun bt177 => ((carve_Edits.f k y174 0 3).bind fun t181 => (if bt177.2 = true then (if (bt177.1.length : Int) = 2 then (if 0 < (bt177.1.length : Int) then (if (rd_T35 bt177.1 0).f2 = true then (if ((rd_T35 bt177.1 0).f1) = 3 then (if 1 < (bt177.1.length : Int) then (if ((rd_T35 bt177.1 1).f0) = 3 then (if (t181.length : Int) = 4 then (if 0 < (t181.length : Int) then (if ((rd_T30 t181 0).f1) = 7 then (if 3 < (t181.length : Int) then (if ((rd_T30 t181 3).f1) = 10 then ((carve_Off.f ((rd_T35 bt177.1 0).f0) ((rd_T35 bt177.1 0).f1) ((rd_T35 bt177.1 0).f2)).bind fun t190 => (some (t190 == 8))) else (some false)) else (none)) else (some false)) else (none)) else (some false)) else (some false)) else (none)) else (some false)) else (some false)) else (none)) else (some false)) else (some false))))) = some r := h
  clear h
  obtain ⟨y174, hy174⟩ : ∃ y_ : List (S35), y_ = (([(⟨0, 8, false⟩ : S35)] : List (S35))) := ⟨_, rfl⟩
  replace H : ((carve_Blocks.f k y174 0 3).bind fun bt177 => ((carve_Edits.f k y174 0 3).bind fun t181 => (if bt177.2 = true then (if (bt177.1.length : Int) = 2 then (if 0 < (bt177.1.length : Int) then (if (rd_T35 bt177.1 0).f2 = true then (if ((rd_T35 bt177.1 0).f1) = 3 then (if 1 < (bt177.1.length : Int) then (if ((rd_T35 bt177.1 1).f0) = 3 then (if (t181.length : Int) = 4 then (if 0 < (t181.length : Int) then (if ((rd_T30 t181 0).f1) = 7 then (if 3 < (t181.length : Int) then (if ((rd_T30 t181 3).f1) = 10 then ((carve_Off.f ((rd_T35 bt177.1 0).f0) ((rd_T35 bt177.1 0).f1) ((rd_T35 bt177.1 0).f2)).bind fun t190 => (some (t190 == 8))) else (some false)) else (none)) else (some false)) else (none)) else (some false)) else (some false)) else (none)) else (some false)) else (some false)) else (none)) else (some false)) else (some false)))) = some r := by first | (rw [hy174]; with_reducible exact H) | (have H2_ := (Option.bind_some _ _).symm.trans H; rw [hy174]; with_reducible exact H2_) | (have H2_ := (Option.bind_some _ _).symm.trans H; with_reducible exact H2_) | with_reducible exact H | (rw [hy174]; exact H) | exact H
  have Ny174 := Aside0.mk hy174
  clear hy174
  replace H := Option.bind_eq_some_iff.mp H
  obtain ⟨⟨t177, t180⟩, A10, H⟩ := H
  replace H : ((carve_Edits.f k y174 0 3).bind fun t181 => (if t180 = true then (if (t177.length : Int) = 2 then (if 0 < (t177.length : Int) then (if (rd_T35 t177 0).f2 = true then (if ((rd_T35 t177 0).f1) = 3 then (if 1 < (t177.length : Int) then (if ((rd_T35 t177 1).f0) = 3 then (if (t181.length : Int) = 4 then (if 0 < (t181.length : Int) then (if ((rd_T30 t181 0).f1) = 7 then (if 3 < (t181.length : Int) then (if ((rd_T30 t181 3).f1) = 10 then ((carve_Off.f ((rd_T35 t177 0).f0) ((rd_T35 t177 0).f1) ((rd_T35 t177 0).f2)).bind fun t190 => (some (t190 == 8))) else (some false)) else (none)) else (some false)) else (none)) else (some false)) else (some false)) else (none)) else (some false)) else (some false)) else (none)) else (some false)) else (some false))) = some r := H
  have A1 := Aside0.mk A10
  clear A10
  replace H := Option.bind_eq_some_iff.mp H
  obtain ⟨t181, A20, H⟩ := H
  replace H : (if t180 = true then (if (t177.length : Int) = 2 then (if 0 < (t177.length : Int) then (if (rd_T35 t177 0).f2 = true then (if ((rd_T35 t177 0).f1) = 3 then (if 1 < (t177.length : Int) then (if ((rd_T35 t177 1).f0) = 3 then (if (t181.length : Int) = 4 then (if 0 < (t181.length : Int) then (if ((rd_T30 t181 0).f1) = 7 then (if 3 < (t181.length : Int) then (if ((rd_T30 t181 3).f1) = 10 then ((carve_Off.f ((rd_T35 t177 0).f0) ((rd_T35 t177 0).f1) ((rd_T35 t177 0).f2)).bind fun t190 => (some (t190 == 8))) else (some false)) else (none)) else (some false)) else (none)) else (some false)) else (some false)) else (none)) else (some false)) else (some false)) else (none)) else (some false)) else (some false)) = some r := H
  have A2 := Aside0.mk A20
  clear A20
  by_cases c3 : t180 = true
  · subst c3
    have H1 : (if (t177.length : Int) = 2 then (if 0 < (t177.length : Int) then (if (rd_T35 t177 0).f2 = true then (if ((rd_T35 t177 0).f1) = 3 then (if 1 < (t177.length : Int) then (if ((rd_T35 t177 1).f0) = 3 then (if (t181.length : Int) = 4 then (if 0 < (t181.length : Int) then (if ((rd_T30 t181 0).f1) = 7 then (if 3 < (t181.length : Int) then (if ((rd_T30 t181 3).f1) = 10 then ((carve_Off.f ((rd_T35 t177 0).f0) ((rd_T35 t177 0).f1) ((rd_T35 t177 0).f2)).bind fun t190 => (some (t190 == 8))) else (some false)) else (none)) else (some false)) else (none)) else (some false)) else (some false)) else (none)) else (some false)) else (some false)) else (none)) else (some false)) = some r := by rw [if_pos rfl] at H; exact H
    clear H
    have H := H1
    clear H1
    by_cases c4 : (t177.length : Int) = 2
    · rw [if_pos c4] at H
      have c4b0 : ((t177.length : Int) == 2) = true := beq_iff_eq.mpr c4
      have c4b1 : ((t177.length : Int) != 2) = false := bne_eq_false_iff_eq.mpr c4
      clear c4
      by_cases c5 : 0 < (t177.length : Int)
      · rw [if_pos c5] at H
        have c5b0 : decide (0 < (t177.length : Int)) = true := decide_eq_true c5
        have c5b1 : decide (0 < t177.length) = true := decide_eq_true (by omega)
        clear c5
        obtain ⟨bq6, hbq6⟩ : ∃ b_ : Bool, b_ = ((rd_T35 t177 0).f2) := ⟨_, rfl⟩
        replace H : (if bq6 = true then (if ((rd_T35 t177 0).f1) = 3 then (if 1 < (t177.length : Int) then (if ((rd_T35 t177 1).f0) = 3 then (if (t181.length : Int) = 4 then (if 0 < (t181.length : Int) then (if ((rd_T30 t181 0).f1) = 7 then (if 3 < (t181.length : Int) then (if ((rd_T30 t181 3).f1) = 10 then ((carve_Off.f ((rd_T35 t177 0).f0) ((rd_T35 t177 0).f1) bq6).bind fun t190 => (some (t190 == 8))) else (some false)) else (none)) else (some false)) else (none)) else (some false)) else (some false)) else (none)) else (some false)) else (some false)) = some r := by first | exact H | (rw [← hbq6] at H; exact H)
        have Nbq6 := Aside0.mk hbq6
        clear hbq6
        (try rw [← Nbq6.out])
        by_cases c7 : bq6 = true
        · subst c7
          have H1 : (if ((rd_T35 t177 0).f1) = 3 then (if 1 < (t177.length : Int) then (if ((rd_T35 t177 1).f0) = 3 then (if (t181.length : Int) = 4 then (if 0 < (t181.length : Int) then (if ((rd_T30 t181 0).f1) = 7 then (if 3 < (t181.length : Int) then (if ((rd_T30 t181 3).f1) = 10 then ((carve_Off.f ((rd_T35 t177 0).f0) ((rd_T35 t177 0).f1) true).bind fun t190 => (some (t190 == 8))) else (some false)) else (none)) else (some false)) else (none)) else (some false)) else (some false)) else (none)) else (some false)) = some r := by rw [if_pos rfl] at H; exact H
          clear H
          have H := H1
          clear H1
          by_cases c8 : ((rd_T35 t177 0).f1) = 3
          · rw [if_pos c8] at H
            have c8b0 : (((rd_T35 t177 0).f1) == 3) = true := beq_iff_eq.mpr c8
            have c8b1 : (((rd_T35 t177 0).f1) != 3) = false := bne_eq_false_iff_eq.mpr c8
            clear c8
            by_cases c9 : 1 < (t177.length : Int)
            · rw [if_pos c9] at H
              have c9b0 : decide (1 < (t177.length : Int)) = true := decide_eq_true c9
              have c9b1 : decide (1 < t177.length) = true := decide_eq_true (by omega)
              clear c9
              by_cases c10 : ((rd_T35 t177 1).f0) = 3
              · rw [if_pos c10] at H
                have c10b0 : (((rd_T35 t177 1).f0) == 3) = true := beq_iff_eq.mpr c10
                have c10b1 : (((rd_T35 t177 1).f0) != 3) = false := bne_eq_false_iff_eq.mpr c10
                clear c10
                by_cases c11 : (t181.length : Int) = 4
                · rw [if_pos c11] at H
                  have c11b0 : ((t181.length : Int) == 4) = true := beq_iff_eq.mpr c11
                  have c11b1 : ((t181.length : Int) != 4) = false := bne_eq_false_iff_eq.mpr c11
                  clear c11
                  by_cases c12 : 0 < (t181.length : Int)
                  · rw [if_pos c12] at H
                    have c12b0 : decide (0 < (t181.length : Int)) = true := decide_eq_true c12
                    have c12b1 : decide (0 < t181.length) = true := decide_eq_true (by omega)
                    clear c12
                    by_cases c13 : ((rd_T30 t181 0).f1) = 7
                    · rw [if_pos c13] at H
                      have c13b0 : (((rd_T30 t181 0).f1) == 7) = true := beq_iff_eq.mpr c13
                      have c13b1 : (((rd_T30 t181 0).f1) != 7) = false := bne_eq_false_iff_eq.mpr c13
                      clear c13
                      by_cases c14 : 3 < (t181.length : Int)
                      · rw [if_pos c14] at H
                        have c14b0 : decide (3 < (t181.length : Int)) = true := decide_eq_true c14
                        have c14b1 : decide (3 < t181.length) = true := decide_eq_true (by omega)
                        clear c14
                        by_cases c15 : ((rd_T30 t181 3).f1) = 10
                        · rw [if_pos c15] at H
                          have c15b0 : (((rd_T30 t181 3).f1) == 10) = true := beq_iff_eq.mpr c15
                          have c15b1 : (((rd_T30 t181 3).f1) != 10) = false := bne_eq_false_iff_eq.mpr c15
                          clear c15
                          replace H := Option.bind_eq_some_iff.mp H
                          obtain ⟨t190, A160, H⟩ := H
                          replace H : (some (t190 == 8)) = some r := H
                          have A16 := Aside0.mk A160
                          clear A160
                          as_aux_lemma =>
                            obtain rfl := Option.some.inj H
                            go_enter Try.func22, Try.ntmps22
                            go_wp2_with (first | ((with_reducible refine gate_dst (N := 6) rfl ?_); (try (refine gate_guard (by rfl) ?_; dsimp only)); refine Kd.R_lit k35 _ 35 ?hg (N := 6) ?hd (xs := ([(⟨0, 8, false⟩ : S35)] : List (S35))) (inner := [.int .i64 0, .int .i64 8, .bool false]) (ok := fun _ => True) (okp := fun _ => True) ?hr ?hp (fun _ hk => hk) trivial (Below.refl _ _) (Nat.le_refl _) (by simp) ?_; (case hd => rfl); (case hg => rfl); (case hr => first | (go_simp; done) | (go_simp; rfl)); (case hp => exact (Reps.c3 (show Kd.M k35 _ _ _ (⟨0, 8, false⟩ : S35) [.int .i64 0, .int .i64 8, .bool false] from (k35_mkM _ _ _ (⟨0, 8, false⟩ : S35) )) (Reps.none _ _))); intro v175 w17 ho18 hb hg_ hnew_; clear hg_ hnew_; (first | rw [← Ny174.out] at ho18 | (simp only [Int.reduceToNat] at ho18; rw [← Ny174.out] at ho18)); have n0_ := Aside0.mk (Kd.R_lower ho18 (below_size (by repeat (first | (with_reducible first | exact HB.out | apply below_alloc | apply pw_below_drewN | apply below_drew1) | exact HB.out)))); have n1_ := Aside0.mk (below_step (by repeat (first | (with_reducible first | exact HB.out | apply below_alloc | apply pw_below_drewN | apply below_drew1) | exact HB.out)) hb); clear HB; have HO176 := n0_; have HB := n1_; clear n0_ n1_; clear hb ho18; obtain ⟨Ao19, co19, eo19⟩ := Kd.R_slice HO176.out; subst eo19) | ((with_reducible refine gate_callee (f := 23) rfl ?_); refine goesL_ (some 9) rfl rfl Try.func23 (by kernel_rfl) rfl #[.slice Ao19 y174.length co19, .int .i64 0, .int .i64 3] rfl (by (try simp only [List.map_toArray, List.map_cons, List.map_nil]); first | done | rfl | (simp only [List.length_drop, List.length_take]; rfl)) ?_; (with_reducible refine (carve_Blocks.calls k (fun k_ => some k_ = (.slice Ao19 y174.length co19 : Value).ownBlock) _ _ y174 0 3 t177 true _ ?side1 A1.out).mono ?_); (case side1 => exact Kd.R_V (Kd.R_tight rfl (HO176.out))); rintro e w20 ⟨v178, rfl, ho0, hb⟩; refine ⟨_, rfl, ?_⟩; have n0_ := Aside0.mk (Kd.R_elder' (by (with_reducible repeat (first | apply Kd.R_alloc | apply Kd.R_drewN | apply Kd.R_drew)); exact HO176.out) (Kd.R_base ho0) hb); have n1_ := Aside0.mk (Kd.R_lower (Kd.R_new' (Kd.R_mono (ok' := fun k_ => True) ho0 (fun _ hk_ => trivial)) (Kd.R_lt (by (with_reducible repeat (first | apply Kd.R_alloc | apply Kd.R_drewN | apply Kd.R_drew)); exact HO176.out))) (below_size (by repeat (first | (with_reducible first | exact HB.out | apply below_alloc | apply pw_below_drewN | apply below_drew1) | exact HB.out)))); have n2_ := Aside0.mk (below_step (by repeat (first | (with_reducible first | exact HB.out | apply below_alloc | apply pw_below_drewN | apply below_drew1) | exact HB.out)) hb); clear HO176; clear HB; have HO176 := n0_; have HO179 := n1_; have HB := n2_; clear n0_ n1_ n2_; (try clear hb); (try clear hb2); (try clear hk); (try clear hi); (try clear ho0)) | ((with_reducible refine gate_callee (f := 26) rfl ?_); refine goesL_ (some 13) rfl rfl Try.func26 (by kernel_rfl) rfl #[.slice Ao19 y174.length co19, .int .i64 0, .int .i64 3] rfl (by (try simp only [List.map_toArray, List.map_cons, List.map_nil]); first | done | rfl | (simp only [List.length_drop, List.length_take]; rfl)) ?_; (with_reducible refine (carve_Edits.calls k _ _ y174 0 3 t181 _ ?side1 ?side2 A2.out).mono ?_); (case side1 => repeat (first | exact (Kd.R_reads' HO176.out).2.2 | (with_reducible refine Kd.C_alloc ?_ _) | (with_reducible refine Kd.C_drewN ?_ _) | (with_reducible refine Kd.C_drew ?_))); (case side2 => exact (Kd.R_reads' HO176.out).2.1); rintro e w21 ⟨v182, rfl, ho0, hb⟩; refine ⟨_, rfl, ?_⟩; have n0_ := Aside0.mk (Kd.R_below (by (with_reducible repeat (first | apply Kd.R_alloc | apply Kd.R_drewN | apply Kd.R_drew)); exact HO176.out) hb); have n1_ := Aside0.mk (Kd.R_below (by (with_reducible repeat (first | apply Kd.R_alloc | apply Kd.R_drewN | apply Kd.R_drew)); exact HO179.out) hb); have n2_ := Aside0.mk (Kd.R_lower ho0 (below_size (by repeat (first | (with_reducible first | exact HB.out | apply below_alloc | apply pw_below_drewN | apply below_drew1) | exact HB.out)))); have n3_ := Aside0.mk (below_step (by repeat (first | (with_reducible first | exact HB.out | apply below_alloc | apply pw_below_drewN | apply below_drew1) | exact HB.out)) hb); clear HO176; clear HO179; clear HB; have HO176 := n0_; have HO179 := n1_; have HO183 := n2_; have HB := n3_; clear n0_ n1_ n2_ n3_; (try clear hb); (try clear hb2); (try clear hk); (try clear hi); (try clear ho0); obtain ⟨Ao22, co22, eo22⟩ := Kd.R_slice HO179.out; subst eo22; have p184 : 0 ≤ (0 : Int) := (by omega); have q184 : 0 < (t177.length : Int) := of_decide_eq_true (by first | (with_reducible assumption) | assumption); obtain ⟨ad184, e184, hx184_0, hx184_1, hx184_2⟩ := at_T35 (Kd.R_reads' HO179.out).2.2 0 p184 q184; (try rw [← Nbq6.out] at hx184_2); cases e184; have qi184 : (0 < t177.length) = True := eq_true (by omega); (try rw [show ((0 : Int)).toNat = 0 from rfl] at hx184_0); (try rw [show 0 * 3 = 0 from rfl] at hx184_0); (try rw [Addr.add_zero'] at hx184_0); (try rw [show ((0 : Int)).toNat = 0 from rfl] at hx184_1); (try rw [show 0 * 3 = 0 from rfl] at hx184_1); (try rw [Addr.add_zero'] at hx184_1); (try rw [show ((0 : Int)).toNat = 0 from rfl] at hx184_2); (try rw [show 0 * 3 = 0 from rfl] at hx184_2); (try rw [Addr.add_zero'] at hx184_2); replace p184 := eq_true p184; replace q184 := eq_true q184; have p185 : 0 ≤ (0 : Int) := (by omega); have q185 : 0 < (t177.length : Int) := of_decide_eq_true (by first | (with_reducible assumption) | assumption); obtain ⟨ad185, e185, hx185_0, hx185_1, hx185_2⟩ := at_T35 (Kd.R_reads' HO179.out).2.2 0 p185 q185; (try rw [← Nbq6.out] at hx185_2); obtain rfl : ad184 = ad185 := (by injection e185); have qi185 : (0 < t177.length) = True := eq_true (by omega); (try rw [show ((0 : Int)).toNat = 0 from rfl] at hx185_0); (try rw [show 0 * 3 = 0 from rfl] at hx185_0); (try rw [Addr.add_zero'] at hx185_0); (try rw [show ((0 : Int)).toNat = 0 from rfl] at hx185_1); (try rw [show 0 * 3 = 0 from rfl] at hx185_1); (try rw [Addr.add_zero'] at hx185_1); (try rw [show ((0 : Int)).toNat = 0 from rfl] at hx185_2); (try rw [show 0 * 3 = 0 from rfl] at hx185_2); (try rw [Addr.add_zero'] at hx185_2); replace p185 := eq_true p185; replace q185 := eq_true q185; have p186 : 0 ≤ (1 : Int) := (by omega); have q186 : 1 < (t177.length : Int) := of_decide_eq_true (by first | (with_reducible assumption) | assumption); obtain ⟨ad186, e186, hx186_0, hx186_1, hx186_2⟩ := at_T35 (Kd.R_reads' HO179.out).2.2 1 p186 q186; (try rw [← Nbq6.out] at hx186_2); obtain rfl : ad184 = ad186 := (by injection e186); (try simp only [show (1 : Int).toNat = 1 from rfl, Nat.reduceMul, Nat.reduceEqDiff, Go.Addr.add, ↓reduceIte] at hx186_0); (try simp only [show (1 : Int).toNat = 1 from rfl, Nat.reduceMul, Nat.reduceEqDiff, Go.Addr.add, ↓reduceIte] at hx186_1); (try simp only [show (1 : Int).toNat = 1 from rfl, Nat.reduceMul, Nat.reduceEqDiff, Go.Addr.add, ↓reduceIte] at hx186_2); have qi186 : (1 < t177.length) = True := eq_true (by omega); (try rw [show ((1 : Int)).toNat = 1 from rfl] at hx186_0); (try rw [show 1 * 3 = 3 from rfl] at hx186_0); (try rw [show ((1 : Int)).toNat = 1 from rfl] at hx186_1); (try rw [show 1 * 3 = 3 from rfl] at hx186_1); (try rw [show ((1 : Int)).toNat = 1 from rfl] at hx186_2); (try rw [show 1 * 3 = 3 from rfl] at hx186_2); replace p186 := eq_true p186; replace q186 := eq_true q186; obtain ⟨Ao23, co23, eo23⟩ := Kd.R_slice HO183.out; subst eo23; have p187 : 0 ≤ (0 : Int) := (by omega); have q187 : 0 < (t181.length : Int) := of_decide_eq_true (by first | (with_reducible assumption) | assumption); obtain ⟨ad187, e187, hx187_0, hx187_1⟩ := at_T30 (Kd.R_reads' HO183.out).2.2 0 p187 q187; cases e187; have qi187 : (0 < t181.length) = True := eq_true (by omega); (try rw [show ((0 : Int)).toNat = 0 from rfl] at hx187_0); (try rw [show 0 * 2 = 0 from rfl] at hx187_0); (try rw [Addr.add_zero'] at hx187_0); (try rw [show ((0 : Int)).toNat = 0 from rfl] at hx187_1); (try rw [show 0 * 2 = 0 from rfl] at hx187_1); (try rw [Addr.add_zero'] at hx187_1); replace p187 := eq_true p187; replace q187 := eq_true q187; have p188 : 0 ≤ (3 : Int) := (by omega); have q188 : 3 < (t181.length : Int) := of_decide_eq_true (by first | (with_reducible assumption) | assumption); obtain ⟨ad188, e188, hx188_0, hx188_1⟩ := at_T30 (Kd.R_reads' HO183.out).2.2 3 p188 q188; obtain rfl : ad187 = ad188 := (by injection e188); (try simp only [show (3 : Int).toNat = 3 from rfl, Nat.reduceMul, Nat.reduceEqDiff, Go.Addr.add, ↓reduceIte] at hx188_0); (try simp only [show (3 : Int).toNat = 3 from rfl, Nat.reduceMul, Nat.reduceEqDiff, Go.Addr.add, ↓reduceIte] at hx188_1); have qi188 : (3 < t181.length) = True := eq_true (by omega); (try rw [show ((3 : Int)).toNat = 3 from rfl] at hx188_0); (try rw [show 3 * 2 = 6 from rfl] at hx188_0); (try rw [show ((3 : Int)).toNat = 3 from rfl] at hx188_1); (try rw [show 3 * 2 = 6 from rfl] at hx188_1); replace p188 := eq_true p188; replace q188 := eq_true q188; have p189 : 0 ≤ (0 : Int) := (by omega); have q189 : 0 < (t177.length : Int) := of_decide_eq_true (by first | (with_reducible assumption) | assumption); obtain ⟨ad189, e189, hx189_0, hx189_1, hx189_2⟩ := at_T35 (Kd.R_reads' HO179.out).2.2 0 p189 q189; (try rw [← Nbq6.out] at hx189_2); obtain rfl : ad184 = ad189 := (by injection e189); have qi189 : (0 < t177.length) = True := eq_true (by omega); (try rw [show ((0 : Int)).toNat = 0 from rfl] at hx189_0); (try rw [show 0 * 3 = 0 from rfl] at hx189_0); (try rw [Addr.add_zero'] at hx189_0); (try rw [show ((0 : Int)).toNat = 0 from rfl] at hx189_1); (try rw [show 0 * 3 = 0 from rfl] at hx189_1); (try rw [Addr.add_zero'] at hx189_1); (try rw [show ((0 : Int)).toNat = 0 from rfl] at hx189_2); (try rw [show 0 * 3 = 0 from rfl] at hx189_2); (try rw [Addr.add_zero'] at hx189_2); replace p189 := eq_true p189; replace q189 := eq_true q189) | (go_at_call 28; (with_reducible refine (carve_Off.calls ((rd_T35 t177 0).f0) ((rd_T35 t177 0).f1) true t190 _ A16.out).mono ?_); rintro e w24 ⟨rfl, hb⟩; have n0_ := Aside0.mk (Kd.R_below (by (with_reducible repeat (first | apply Kd.R_alloc | apply Kd.R_drewN | apply Kd.R_drew)); exact HO176.out) hb); have n1_ := Aside0.mk (Kd.R_below (by (with_reducible repeat (first | apply Kd.R_alloc | apply Kd.R_drewN | apply Kd.R_drew)); exact HO179.out) hb); have n2_ := Aside0.mk (Kd.R_below (by (with_reducible repeat (first | apply Kd.R_alloc | apply Kd.R_drewN | apply Kd.R_drew)); exact HO183.out) hb); have n3_ := Aside0.mk (below_step (by repeat (first | (with_reducible first | exact HB.out | apply below_alloc | apply pw_below_drewN | apply below_drew1) | exact HB.out)) hb); clear HO176; clear HO179; clear HO183; clear HB; have HO176 := n0_; have HO179 := n1_; have HO183 := n2_; have HB := n3_; clear n0_ n1_ n2_ n3_; (try clear hb); (try clear hb2); (try clear hk); (try clear hi)))
                            go_ret
                            exact ⟨by first | rfl | (simp [errW_none, errW_some] <;> rfl) | (simp [*, errW_none, errW_some] <;> rfl), by repeat (first | (with_reducible first | exact HB.out | apply below_alloc | apply pw_below_drewN | apply below_drew1) | exact HB.out)⟩
                        · rw [if_neg c15] at H
                          have c15b0 : (((rd_T30 t181 3).f1) == 10) = false := beq_eq_false_iff_ne.mpr c15
                          have c15b1 : (((rd_T30 t181 3).f1) != 10) = true := bne_iff_ne.mpr c15
                          as_aux_lemma =>
                            obtain rfl := Option.some.inj H
                            go_enter Try.func22, Try.ntmps22
                            go_wp2_with (first | ((with_reducible refine gate_dst (N := 6) rfl ?_); (try (refine gate_guard (by rfl) ?_; dsimp only)); refine Kd.R_lit k35 _ 35 ?hg (N := 6) ?hd (xs := ([(⟨0, 8, false⟩ : S35)] : List (S35))) (inner := [.int .i64 0, .int .i64 8, .bool false]) (ok := fun _ => True) (okp := fun _ => True) ?hr ?hp (fun _ hk => hk) trivial (Below.refl _ _) (Nat.le_refl _) (by simp) ?_; (case hd => rfl); (case hg => rfl); (case hr => first | (go_simp; done) | (go_simp; rfl)); (case hp => exact (Reps.c3 (show Kd.M k35 _ _ _ (⟨0, 8, false⟩ : S35) [.int .i64 0, .int .i64 8, .bool false] from (k35_mkM _ _ _ (⟨0, 8, false⟩ : S35) )) (Reps.none _ _))); intro v175 w25 ho26 hb hg_ hnew_; clear hg_ hnew_; (first | rw [← Ny174.out] at ho26 | (simp only [Int.reduceToNat] at ho26; rw [← Ny174.out] at ho26)); have n0_ := Aside0.mk (Kd.R_lower ho26 (below_size (by repeat (first | (with_reducible first | exact HB.out | apply below_alloc | apply pw_below_drewN | apply below_drew1) | exact HB.out)))); have n1_ := Aside0.mk (below_step (by repeat (first | (with_reducible first | exact HB.out | apply below_alloc | apply pw_below_drewN | apply below_drew1) | exact HB.out)) hb); clear HB; have HO176 := n0_; have HB := n1_; clear n0_ n1_; clear hb ho26; obtain ⟨Ao27, co27, eo27⟩ := Kd.R_slice HO176.out; subst eo27) | ((with_reducible refine gate_callee (f := 23) rfl ?_); refine goesL_ (some 9) rfl rfl Try.func23 (by kernel_rfl) rfl #[.slice Ao27 y174.length co27, .int .i64 0, .int .i64 3] rfl (by (try simp only [List.map_toArray, List.map_cons, List.map_nil]); first | done | rfl | (simp only [List.length_drop, List.length_take]; rfl)) ?_; (with_reducible refine (carve_Blocks.calls k (fun k_ => some k_ = (.slice Ao27 y174.length co27 : Value).ownBlock) _ _ y174 0 3 t177 true _ ?side1 A1.out).mono ?_); (case side1 => exact Kd.R_V (Kd.R_tight rfl (HO176.out))); rintro e w28 ⟨v178, rfl, ho0, hb⟩; refine ⟨_, rfl, ?_⟩; have n0_ := Aside0.mk (Kd.R_elder' (by (with_reducible repeat (first | apply Kd.R_alloc | apply Kd.R_drewN | apply Kd.R_drew)); exact HO176.out) (Kd.R_base ho0) hb); have n1_ := Aside0.mk (Kd.R_lower (Kd.R_new' (Kd.R_mono (ok' := fun k_ => True) ho0 (fun _ hk_ => trivial)) (Kd.R_lt (by (with_reducible repeat (first | apply Kd.R_alloc | apply Kd.R_drewN | apply Kd.R_drew)); exact HO176.out))) (below_size (by repeat (first | (with_reducible first | exact HB.out | apply below_alloc | apply pw_below_drewN | apply below_drew1) | exact HB.out)))); have n2_ := Aside0.mk (below_step (by repeat (first | (with_reducible first | exact HB.out | apply below_alloc | apply pw_below_drewN | apply below_drew1) | exact HB.out)) hb); clear HO176; clear HB; have HO176 := n0_; have HO179 := n1_; have HB := n2_; clear n0_ n1_ n2_; (try clear hb); (try clear hb2); (try clear hk); (try clear hi); (try clear ho0)) | ((with_reducible refine gate_callee (f := 26) rfl ?_); refine goesL_ (some 13) rfl rfl Try.func26 (by kernel_rfl) rfl #[.slice Ao27 y174.length co27, .int .i64 0, .int .i64 3] rfl (by (try simp only [List.map_toArray, List.map_cons, List.map_nil]); first | done | rfl | (simp only [List.length_drop, List.length_take]; rfl)) ?_; (with_reducible refine (carve_Edits.calls k _ _ y174 0 3 t181 _ ?side1 ?side2 A2.out).mono ?_); (case side1 => repeat (first | exact (Kd.R_reads' HO176.out).2.2 | (with_reducible refine Kd.C_alloc ?_ _) | (with_reducible refine Kd.C_drewN ?_ _) | (with_reducible refine Kd.C_drew ?_))); (case side2 => exact (Kd.R_reads' HO176.out).2.1); rintro e w29 ⟨v182, rfl, ho0, hb⟩; refine ⟨_, rfl, ?_⟩; have n0_ := Aside0.mk (Kd.R_below (by (with_reducible repeat (first | apply Kd.R_alloc | apply Kd.R_drewN | apply Kd.R_drew)); exact HO176.out) hb); have n1_ := Aside0.mk (Kd.R_below (by (with_reducible repeat (first | apply Kd.R_alloc | apply Kd.R_drewN | apply Kd.R_drew)); exact HO179.out) hb); have n2_ := Aside0.mk (Kd.R_lower ho0 (below_size (by repeat (first | (with_reducible first | exact HB.out | apply below_alloc | apply pw_below_drewN | apply below_drew1) | exact HB.out)))); have n3_ := Aside0.mk (below_step (by repeat (first | (with_reducible first | exact HB.out | apply below_alloc | apply pw_below_drewN | apply below_drew1) | exact HB.out)) hb); clear HO176; clear HO179; clear HB; have HO176 := n0_; have HO179 := n1_; have HO183 := n2_; have HB := n3_; clear n0_ n1_ n2_ n3_; (try clear hb); (try clear hb2); (try clear hk); (try clear hi); (try clear ho0); obtain ⟨Ao30, co30, eo30⟩ := Kd.R_slice HO179.out; subst eo30; have p184 : 0 ≤ (0 : Int) := (by omega); have q184 : 0 < (t177.length : Int) := of_decide_eq_true (by first | (with_reducible assumption) | assumption); obtain ⟨ad184, e184, hx184_0, hx184_1, hx184_2⟩ := at_T35 (Kd.R_reads' HO179.out).2.2 0 p184 q184; (try rw [← Nbq6.out] at hx184_2); cases e184; have qi184 : (0 < t177.length) = True := eq_true (by omega); (try rw [show ((0 : Int)).toNat = 0 from rfl] at hx184_0); (try rw [show 0 * 3 = 0 from rfl] at hx184_0); (try rw [Addr.add_zero'] at hx184_0); (try rw [show ((0 : Int)).toNat = 0 from rfl] at hx184_1); (try rw [show 0 * 3 = 0 from rfl] at hx184_1); (try rw [Addr.add_zero'] at hx184_1); (try rw [show ((0 : Int)).toNat = 0 from rfl] at hx184_2); (try rw [show 0 * 3 = 0 from rfl] at hx184_2); (try rw [Addr.add_zero'] at hx184_2); replace p184 := eq_true p184; replace q184 := eq_true q184; have p185 : 0 ≤ (0 : Int) := (by omega); have q185 : 0 < (t177.length : Int) := of_decide_eq_true (by first | (with_reducible assumption) | assumption); obtain ⟨ad185, e185, hx185_0, hx185_1, hx185_2⟩ := at_T35 (Kd.R_reads' HO179.out).2.2 0 p185 q185; (try rw [← Nbq6.out] at hx185_2); obtain rfl : ad184 = ad185 := (by injection e185); have qi185 : (0 < t177.length) = True := eq_true (by omega); (try rw [show ((0 : Int)).toNat = 0 from rfl] at hx185_0); (try rw [show 0 * 3 = 0 from rfl] at hx185_0); (try rw [Addr.add_zero'] at hx185_0); (try rw [show ((0 : Int)).toNat = 0 from rfl] at hx185_1); (try rw [show 0 * 3 = 0 from rfl] at hx185_1); (try rw [Addr.add_zero'] at hx185_1); (try rw [show ((0 : Int)).toNat = 0 from rfl] at hx185_2); (try rw [show 0 * 3 = 0 from rfl] at hx185_2); (try rw [Addr.add_zero'] at hx185_2); replace p185 := eq_true p185; replace q185 := eq_true q185; have p186 : 0 ≤ (1 : Int) := (by omega); have q186 : 1 < (t177.length : Int) := of_decide_eq_true (by first | (with_reducible assumption) | assumption); obtain ⟨ad186, e186, hx186_0, hx186_1, hx186_2⟩ := at_T35 (Kd.R_reads' HO179.out).2.2 1 p186 q186; (try rw [← Nbq6.out] at hx186_2); obtain rfl : ad184 = ad186 := (by injection e186); (try simp only [show (1 : Int).toNat = 1 from rfl, Nat.reduceMul, Nat.reduceEqDiff, Go.Addr.add, ↓reduceIte] at hx186_0); (try simp only [show (1 : Int).toNat = 1 from rfl, Nat.reduceMul, Nat.reduceEqDiff, Go.Addr.add, ↓reduceIte] at hx186_1); (try simp only [show (1 : Int).toNat = 1 from rfl, Nat.reduceMul, Nat.reduceEqDiff, Go.Addr.add, ↓reduceIte] at hx186_2); have qi186 : (1 < t177.length) = True := eq_true (by omega); (try rw [show ((1 : Int)).toNat = 1 from rfl] at hx186_0); (try rw [show 1 * 3 = 3 from rfl] at hx186_0); (try rw [show ((1 : Int)).toNat = 1 from rfl] at hx186_1); (try rw [show 1 * 3 = 3 from rfl] at hx186_1); (try rw [show ((1 : Int)).toNat = 1 from rfl] at hx186_2); (try rw [show 1 * 3 = 3 from rfl] at hx186_2); replace p186 := eq_true p186; replace q186 := eq_true q186; obtain ⟨Ao31, co31, eo31⟩ := Kd.R_slice HO183.out; subst eo31; have p187 : 0 ≤ (0 : Int) := (by omega); have q187 : 0 < (t181.length : Int) := of_decide_eq_true (by first | (with_reducible assumption) | assumption); obtain ⟨ad187, e187, hx187_0, hx187_1⟩ := at_T30 (Kd.R_reads' HO183.out).2.2 0 p187 q187; cases e187; have qi187 : (0 < t181.length) = True := eq_true (by omega); (try rw [show ((0 : Int)).toNat = 0 from rfl] at hx187_0); (try rw [show 0 * 2 = 0 from rfl] at hx187_0); (try rw [Addr.add_zero'] at hx187_0); (try rw [show ((0 : Int)).toNat = 0 from rfl] at hx187_1); (try rw [show 0 * 2 = 0 from rfl] at hx187_1); (try rw [Addr.add_zero'] at hx187_1); replace p187 := eq_true p187; replace q187 := eq_true q187; have p188 : 0 ≤ (3 : Int) := (by omega); have q188 : 3 < (t181.length : Int) := of_decide_eq_true (by first | (with_reducible assumption) | assumption); obtain ⟨ad188, e188, hx188_0, hx188_1⟩ := at_T30 (Kd.R_reads' HO183.out).2.2 3 p188 q188; obtain rfl : ad187 = ad188 := (by injection e188); (try simp only [show (3 : Int).toNat = 3 from rfl, Nat.reduceMul, Nat.reduceEqDiff, Go.Addr.add, ↓reduceIte] at hx188_0); (try simp only [show (3 : Int).toNat = 3 from rfl, Nat.reduceMul, Nat.reduceEqDiff, Go.Addr.add, ↓reduceIte] at hx188_1); have qi188 : (3 < t181.length) = True := eq_true (by omega); (try rw [show ((3 : Int)).toNat = 3 from rfl] at hx188_0); (try rw [show 3 * 2 = 6 from rfl] at hx188_0); (try rw [show ((3 : Int)).toNat = 3 from rfl] at hx188_1); (try rw [show 3 * 2 = 6 from rfl] at hx188_1); replace p188 := eq_true p188; replace q188 := eq_true q188))
                            go_ret
                            exact ⟨by first | rfl | (simp [errW_none, errW_some] <;> rfl) | (simp [*, errW_none, errW_some] <;> rfl), by repeat (first | (with_reducible first | exact HB.out | apply below_alloc | apply pw_below_drewN | apply below_drew1) | exact HB.out)⟩
                      · rw [if_neg c14] at H
                        exact absurd H (by simp)
                    · rw [if_neg c13] at H
                      have c13b0 : (((rd_T30 t181 0).f1) == 7) = false := beq_eq_false_iff_ne.mpr c13
                      have c13b1 : (((rd_T30 t181 0).f1) != 7) = true := bne_iff_ne.mpr c13
                      as_aux_lemma =>
                        obtain rfl := Option.some.inj H
                        go_enter Try.func22, Try.ntmps22
                        go_wp2_with (first | ((with_reducible refine gate_dst (N := 6) rfl ?_); (try (refine gate_guard (by rfl) ?_; dsimp only)); refine Kd.R_lit k35 _ 35 ?hg (N := 6) ?hd (xs := ([(⟨0, 8, false⟩ : S35)] : List (S35))) (inner := [.int .i64 0, .int .i64 8, .bool false]) (ok := fun _ => True) (okp := fun _ => True) ?hr ?hp (fun _ hk => hk) trivial (Below.refl _ _) (Nat.le_refl _) (by simp) ?_; (case hd => rfl); (case hg => rfl); (case hr => first | (go_simp; done) | (go_simp; rfl)); (case hp => exact (Reps.c3 (show Kd.M k35 _ _ _ (⟨0, 8, false⟩ : S35) [.int .i64 0, .int .i64 8, .bool false] from (k35_mkM _ _ _ (⟨0, 8, false⟩ : S35) )) (Reps.none _ _))); intro v175 w32 ho33 hb hg_ hnew_; clear hg_ hnew_; (first | rw [← Ny174.out] at ho33 | (simp only [Int.reduceToNat] at ho33; rw [← Ny174.out] at ho33)); have n0_ := Aside0.mk (Kd.R_lower ho33 (below_size (by repeat (first | (with_reducible first | exact HB.out | apply below_alloc | apply pw_below_drewN | apply below_drew1) | exact HB.out)))); have n1_ := Aside0.mk (below_step (by repeat (first | (with_reducible first | exact HB.out | apply below_alloc | apply pw_below_drewN | apply below_drew1) | exact HB.out)) hb); clear HB; have HO176 := n0_; have HB := n1_; clear n0_ n1_; clear hb ho33; obtain ⟨Ao34, co34, eo34⟩ := Kd.R_slice HO176.out; subst eo34) | ((with_reducible refine gate_callee (f := 23) rfl ?_); refine goesL_ (some 9) rfl rfl Try.func23 (by kernel_rfl) rfl #[.slice Ao34 y174.length co34, .int .i64 0, .int .i64 3] rfl (by (try simp only [List.map_toArray, List.map_cons, List.map_nil]); first | done | rfl | (simp only [List.length_drop, List.length_take]; rfl)) ?_; (with_reducible refine (carve_Blocks.calls k (fun k_ => some k_ = (.slice Ao34 y174.length co34 : Value).ownBlock) _ _ y174 0 3 t177 true _ ?side1 A1.out).mono ?_); (case side1 => exact Kd.R_V (Kd.R_tight rfl (HO176.out))); rintro e w35 ⟨v178, rfl, ho0, hb⟩; refine ⟨_, rfl, ?_⟩; have n0_ := Aside0.mk (Kd.R_elder' (by (with_reducible repeat (first | apply Kd.R_alloc | apply Kd.R_drewN | apply Kd.R_drew)); exact HO176.out) (Kd.R_base ho0) hb); have n1_ := Aside0.mk (Kd.R_lower (Kd.R_new' (Kd.R_mono (ok' := fun k_ => True) ho0 (fun _ hk_ => trivial)) (Kd.R_lt (by (with_reducible repeat (first | apply Kd.R_alloc | apply Kd.R_drewN | apply Kd.R_drew)); exact HO176.out))) (below_size (by repeat (first | (with_reducible first | exact HB.out | apply below_alloc | apply pw_below_drewN | apply below_drew1) | exact HB.out)))); have n2_ := Aside0.mk (below_step (by repeat (first | (with_reducible first | exact HB.out | apply below_alloc | apply pw_below_drewN | apply below_drew1) | exact HB.out)) hb); clear HO176; clear HB; have HO176 := n0_; have HO179 := n1_; have HB := n2_; clear n0_ n1_ n2_; (try clear hb); (try clear hb2); (try clear hk); (try clear hi); (try clear ho0)) | ((with_reducible refine gate_callee (f := 26) rfl ?_); refine goesL_ (some 13) rfl rfl Try.func26 (by kernel_rfl) rfl #[.slice Ao34 y174.length co34, .int .i64 0, .int .i64 3] rfl (by (try simp only [List.map_toArray, List.map_cons, List.map_nil]); first | done | rfl | (simp only [List.length_drop, List.length_take]; rfl)) ?_; (with_reducible refine (carve_Edits.calls k _ _ y174 0 3 t181 _ ?side1 ?side2 A2.out).mono ?_); (case side1 => repeat (first | exact (Kd.R_reads' HO176.out).2.2 | (with_reducible refine Kd.C_alloc ?_ _) | (with_reducible refine Kd.C_drewN ?_ _) | (with_reducible refine Kd.C_drew ?_))); (case side2 => exact (Kd.R_reads' HO176.out).2.1); rintro e w36 ⟨v182, rfl, ho0, hb⟩; refine ⟨_, rfl, ?_⟩; have n0_ := Aside0.mk (Kd.R_below (by (with_reducible repeat (first | apply Kd.R_alloc | apply Kd.R_drewN | apply Kd.R_drew)); exact HO176.out) hb); have n1_ := Aside0.mk (Kd.R_below (by (with_reducible repeat (first | apply Kd.R_alloc | apply Kd.R_drewN | apply Kd.R_drew)); exact HO179.out) hb); have n2_ := Aside0.mk (Kd.R_lower ho0 (below_size (by repeat (first | (with_reducible first | exact HB.out | apply below_alloc | apply pw_below_drewN | apply below_drew1) | exact HB.out)))); have n3_ := Aside0.mk (below_step (by repeat (first | (with_reducible first | exact HB.out | apply below_alloc | apply pw_below_drewN | apply below_drew1) | exact HB.out)) hb); clear HO176; clear HO179; clear HB; have HO176 := n0_; have HO179 := n1_; have HO183 := n2_; have HB := n3_; clear n0_ n1_ n2_ n3_; (try clear hb); (try clear hb2); (try clear hk); (try clear hi); (try clear ho0); obtain ⟨Ao37, co37, eo37⟩ := Kd.R_slice HO179.out; subst eo37; have p184 : 0 ≤ (0 : Int) := (by omega); have q184 : 0 < (t177.length : Int) := of_decide_eq_true (by first | (with_reducible assumption) | assumption); obtain ⟨ad184, e184, hx184_0, hx184_1, hx184_2⟩ := at_T35 (Kd.R_reads' HO179.out).2.2 0 p184 q184; (try rw [← Nbq6.out] at hx184_2); cases e184; have qi184 : (0 < t177.length) = True := eq_true (by omega); (try rw [show ((0 : Int)).toNat = 0 from rfl] at hx184_0); (try rw [show 0 * 3 = 0 from rfl] at hx184_0); (try rw [Addr.add_zero'] at hx184_0); (try rw [show ((0 : Int)).toNat = 0 from rfl] at hx184_1); (try rw [show 0 * 3 = 0 from rfl] at hx184_1); (try rw [Addr.add_zero'] at hx184_1); (try rw [show ((0 : Int)).toNat = 0 from rfl] at hx184_2); (try rw [show 0 * 3 = 0 from rfl] at hx184_2); (try rw [Addr.add_zero'] at hx184_2); replace p184 := eq_true p184; replace q184 := eq_true q184; have p185 : 0 ≤ (0 : Int) := (by omega); have q185 : 0 < (t177.length : Int) := of_decide_eq_true (by first | (with_reducible assumption) | assumption); obtain ⟨ad185, e185, hx185_0, hx185_1, hx185_2⟩ := at_T35 (Kd.R_reads' HO179.out).2.2 0 p185 q185; (try rw [← Nbq6.out] at hx185_2); obtain rfl : ad184 = ad185 := (by injection e185); have qi185 : (0 < t177.length) = True := eq_true (by omega); (try rw [show ((0 : Int)).toNat = 0 from rfl] at hx185_0); (try rw [show 0 * 3 = 0 from rfl] at hx185_0); (try rw [Addr.add_zero'] at hx185_0); (try rw [show ((0 : Int)).toNat = 0 from rfl] at hx185_1); (try rw [show 0 * 3 = 0 from rfl] at hx185_1); (try rw [Addr.add_zero'] at hx185_1); (try rw [show ((0 : Int)).toNat = 0 from rfl] at hx185_2); (try rw [show 0 * 3 = 0 from rfl] at hx185_2); (try rw [Addr.add_zero'] at hx185_2); replace p185 := eq_true p185; replace q185 := eq_true q185; have p186 : 0 ≤ (1 : Int) := (by omega); have q186 : 1 < (t177.length : Int) := of_decide_eq_true (by first | (with_reducible assumption) | assumption); obtain ⟨ad186, e186, hx186_0, hx186_1, hx186_2⟩ := at_T35 (Kd.R_reads' HO179.out).2.2 1 p186 q186; (try rw [← Nbq6.out] at hx186_2); obtain rfl : ad184 = ad186 := (by injection e186); (try simp only [show (1 : Int).toNat = 1 from rfl, Nat.reduceMul, Nat.reduceEqDiff, Go.Addr.add, ↓reduceIte] at hx186_0); (try simp only [show (1 : Int).toNat = 1 from rfl, Nat.reduceMul, Nat.reduceEqDiff, Go.Addr.add, ↓reduceIte] at hx186_1); (try simp only [show (1 : Int).toNat = 1 from rfl, Nat.reduceMul, Nat.reduceEqDiff, Go.Addr.add, ↓reduceIte] at hx186_2); have qi186 : (1 < t177.length) = True := eq_true (by omega); (try rw [show ((1 : Int)).toNat = 1 from rfl] at hx186_0); (try rw [show 1 * 3 = 3 from rfl] at hx186_0); (try rw [show ((1 : Int)).toNat = 1 from rfl] at hx186_1); (try rw [show 1 * 3 = 3 from rfl] at hx186_1); (try rw [show ((1 : Int)).toNat = 1 from rfl] at hx186_2); (try rw [show 1 * 3 = 3 from rfl] at hx186_2); replace p186 := eq_true p186; replace q186 := eq_true q186; obtain ⟨Ao38, co38, eo38⟩ := Kd.R_slice HO183.out; subst eo38; have p187 : 0 ≤ (0 : Int) := (by omega); have q187 : 0 < (t181.length : Int) := of_decide_eq_true (by first | (with_reducible assumption) | assumption); obtain ⟨ad187, e187, hx187_0, hx187_1⟩ := at_T30 (Kd.R_reads' HO183.out).2.2 0 p187 q187; cases e187; have qi187 : (0 < t181.length) = True := eq_true (by omega); (try rw [show ((0 : Int)).toNat = 0 from rfl] at hx187_0); (try rw [show 0 * 2 = 0 from rfl] at hx187_0); (try rw [Addr.add_zero'] at hx187_0); (try rw [show ((0 : Int)).toNat = 0 from rfl] at hx187_1); (try rw [show 0 * 2 = 0 from rfl] at hx187_1); (try rw [Addr.add_zero'] at hx187_1); replace p187 := eq_true p187; replace q187 := eq_true q187))
                        go_ret
                        exact ⟨by first | rfl | (simp [errW_none, errW_some] <;> rfl) | (simp [*, errW_none, errW_some] <;> rfl), by repeat (first | (with_reducible first | exact HB.out | apply below_alloc | apply pw_below_drewN | apply below_drew1) | exact HB.out)⟩
                  · rw [if_neg c12] at H
                    exact absurd H (by simp)
                · rw [if_neg c11] at H
                  have c11b0 : ((t181.length : Int) == 4) = false := beq_eq_false_iff_ne.mpr c11
                  have c11b1 : ((t181.length : Int) != 4) = true := bne_iff_ne.mpr c11
                  as_aux_lemma =>
                    obtain rfl := Option.some.inj H
                    go_enter Try.func22, Try.ntmps22
                    go_wp2_with (first | ((with_reducible refine gate_dst (N := 6) rfl ?_); (try (refine gate_guard (by rfl) ?_; dsimp only)); refine Kd.R_lit k35 _ 35 ?hg (N := 6) ?hd (xs := ([(⟨0, 8, false⟩ : S35)] : List (S35))) (inner := [.int .i64 0, .int .i64 8, .bool false]) (ok := fun _ => True) (okp := fun _ => True) ?hr ?hp (fun _ hk => hk) trivial (Below.refl _ _) (Nat.le_refl _) (by simp) ?_; (case hd => rfl); (case hg => rfl); (case hr => first | (go_simp; done) | (go_simp; rfl)); (case hp => exact (Reps.c3 (show Kd.M k35 _ _ _ (⟨0, 8, false⟩ : S35) [.int .i64 0, .int .i64 8, .bool false] from (k35_mkM _ _ _ (⟨0, 8, false⟩ : S35) )) (Reps.none _ _))); intro v175 w39 ho40 hb hg_ hnew_; clear hg_ hnew_; (first | rw [← Ny174.out] at ho40 | (simp only [Int.reduceToNat] at ho40; rw [← Ny174.out] at ho40)); have n0_ := Aside0.mk (Kd.R_lower ho40 (below_size (by repeat (first | (with_reducible first | exact HB.out | apply below_alloc | apply pw_below_drewN | apply below_drew1) | exact HB.out)))); have n1_ := Aside0.mk (below_step (by repeat (first | (with_reducible first | exact HB.out | apply below_alloc | apply pw_below_drewN | apply below_drew1) | exact HB.out)) hb); clear HB; have HO176 := n0_; have HB := n1_; clear n0_ n1_; clear hb ho40; obtain ⟨Ao41, co41, eo41⟩ := Kd.R_slice HO176.out; subst eo41) | ((with_reducible refine gate_callee (f := 23) rfl ?_); refine goesL_ (some 9) rfl rfl Try.func23 (by kernel_rfl) rfl #[.slice Ao41 y174.length co41, .int .i64 0, .int .i64 3] rfl (by (try simp only [List.map_toArray, List.map_cons, List.map_nil]); first | done | rfl | (simp only [List.length_drop, List.length_take]; rfl)) ?_; (with_reducible refine (carve_Blocks.calls k (fun k_ => some k_ = (.slice Ao41 y174.length co41 : Value).ownBlock) _ _ y174 0 3 t177 true _ ?side1 A1.out).mono ?_); (case side1 => exact Kd.R_V (Kd.R_tight rfl (HO176.out))); rintro e w42 ⟨v178, rfl, ho0, hb⟩; refine ⟨_, rfl, ?_⟩; have n0_ := Aside0.mk (Kd.R_elder' (by (with_reducible repeat (first | apply Kd.R_alloc | apply Kd.R_drewN | apply Kd.R_drew)); exact HO176.out) (Kd.R_base ho0) hb); have n1_ := Aside0.mk (Kd.R_lower (Kd.R_new' (Kd.R_mono (ok' := fun k_ => True) ho0 (fun _ hk_ => trivial)) (Kd.R_lt (by (with_reducible repeat (first | apply Kd.R_alloc | apply Kd.R_drewN | apply Kd.R_drew)); exact HO176.out))) (below_size (by repeat (first | (with_reducible first | exact HB.out | apply below_alloc | apply pw_below_drewN | apply below_drew1) | exact HB.out)))); have n2_ := Aside0.mk (below_step (by repeat (first | (with_reducible first | exact HB.out | apply below_alloc | apply pw_below_drewN | apply below_drew1) | exact HB.out)) hb); clear HO176; clear HB; have HO176 := n0_; have HO179 := n1_; have HB := n2_; clear n0_ n1_ n2_; (try clear hb); (try clear hb2); (try clear hk); (try clear hi); (try clear ho0)) | ((with_reducible refine gate_callee (f := 26) rfl ?_); refine goesL_ (some 13) rfl rfl Try.func26 (by kernel_rfl) rfl #[.slice Ao41 y174.length co41, .int .i64 0, .int .i64 3] rfl (by (try simp only [List.map_toArray, List.map_cons, List.map_nil]); first | done | rfl | (simp only [List.length_drop, List.length_take]; rfl)) ?_; (with_reducible refine (carve_Edits.calls k _ _ y174 0 3 t181 _ ?side1 ?side2 A2.out).mono ?_); (case side1 => repeat (first | exact (Kd.R_reads' HO176.out).2.2 | (with_reducible refine Kd.C_alloc ?_ _) | (with_reducible refine Kd.C_drewN ?_ _) | (with_reducible refine Kd.C_drew ?_))); (case side2 => exact (Kd.R_reads' HO176.out).2.1); rintro e w43 ⟨v182, rfl, ho0, hb⟩; refine ⟨_, rfl, ?_⟩; have n0_ := Aside0.mk (Kd.R_below (by (with_reducible repeat (first | apply Kd.R_alloc | apply Kd.R_drewN | apply Kd.R_drew)); exact HO176.out) hb); have n1_ := Aside0.mk (Kd.R_below (by (with_reducible repeat (first | apply Kd.R_alloc | apply Kd.R_drewN | apply Kd.R_drew)); exact HO179.out) hb); have n2_ := Aside0.mk (Kd.R_lower ho0 (below_size (by repeat (first | (with_reducible first | exact HB.out | apply below_alloc | apply pw_below_drewN | apply below_drew1) | exact HB.out)))); have n3_ := Aside0.mk (below_step (by repeat (first | (with_reducible first | exact HB.out | apply below_alloc | apply pw_below_drewN | apply below_drew1) | exact HB.out)) hb); clear HO176; clear HO179; clear HB; have HO176 := n0_; have HO179 := n1_; have HO183 := n2_; have HB := n3_; clear n0_ n1_ n2_ n3_; (try clear hb); (try clear hb2); (try clear hk); (try clear hi); (try clear ho0); obtain ⟨Ao44, co44, eo44⟩ := Kd.R_slice HO179.out; subst eo44; have p184 : 0 ≤ (0 : Int) := (by omega); have q184 : 0 < (t177.length : Int) := of_decide_eq_true (by first | (with_reducible assumption) | assumption); obtain ⟨ad184, e184, hx184_0, hx184_1, hx184_2⟩ := at_T35 (Kd.R_reads' HO179.out).2.2 0 p184 q184; (try rw [← Nbq6.out] at hx184_2); cases e184; have qi184 : (0 < t177.length) = True := eq_true (by omega); (try rw [show ((0 : Int)).toNat = 0 from rfl] at hx184_0); (try rw [show 0 * 3 = 0 from rfl] at hx184_0); (try rw [Addr.add_zero'] at hx184_0); (try rw [show ((0 : Int)).toNat = 0 from rfl] at hx184_1); (try rw [show 0 * 3 = 0 from rfl] at hx184_1); (try rw [Addr.add_zero'] at hx184_1); (try rw [show ((0 : Int)).toNat = 0 from rfl] at hx184_2); (try rw [show 0 * 3 = 0 from rfl] at hx184_2); (try rw [Addr.add_zero'] at hx184_2); replace p184 := eq_true p184; replace q184 := eq_true q184; have p185 : 0 ≤ (0 : Int) := (by omega); have q185 : 0 < (t177.length : Int) := of_decide_eq_true (by first | (with_reducible assumption) | assumption); obtain ⟨ad185, e185, hx185_0, hx185_1, hx185_2⟩ := at_T35 (Kd.R_reads' HO179.out).2.2 0 p185 q185; (try rw [← Nbq6.out] at hx185_2); obtain rfl : ad184 = ad185 := (by injection e185); have qi185 : (0 < t177.length) = True := eq_true (by omega); (try rw [show ((0 : Int)).toNat = 0 from rfl] at hx185_0); (try rw [show 0 * 3 = 0 from rfl] at hx185_0); (try rw [Addr.add_zero'] at hx185_0); (try rw [show ((0 : Int)).toNat = 0 from rfl] at hx185_1); (try rw [show 0 * 3 = 0 from rfl] at hx185_1); (try rw [Addr.add_zero'] at hx185_1); (try rw [show ((0 : Int)).toNat = 0 from rfl] at hx185_2); (try rw [show 0 * 3 = 0 from rfl] at hx185_2); (try rw [Addr.add_zero'] at hx185_2); replace p185 := eq_true p185; replace q185 := eq_true q185; have p186 : 0 ≤ (1 : Int) := (by omega); have q186 : 1 < (t177.length : Int) := of_decide_eq_true (by first | (with_reducible assumption) | assumption); obtain ⟨ad186, e186, hx186_0, hx186_1, hx186_2⟩ := at_T35 (Kd.R_reads' HO179.out).2.2 1 p186 q186; (try rw [← Nbq6.out] at hx186_2); obtain rfl : ad184 = ad186 := (by injection e186); (try simp only [show (1 : Int).toNat = 1 from rfl, Nat.reduceMul, Nat.reduceEqDiff, Go.Addr.add, ↓reduceIte] at hx186_0); (try simp only [show (1 : Int).toNat = 1 from rfl, Nat.reduceMul, Nat.reduceEqDiff, Go.Addr.add, ↓reduceIte] at hx186_1); (try simp only [show (1 : Int).toNat = 1 from rfl, Nat.reduceMul, Nat.reduceEqDiff, Go.Addr.add, ↓reduceIte] at hx186_2); have qi186 : (1 < t177.length) = True := eq_true (by omega); (try rw [show ((1 : Int)).toNat = 1 from rfl] at hx186_0); (try rw [show 1 * 3 = 3 from rfl] at hx186_0); (try rw [show ((1 : Int)).toNat = 1 from rfl] at hx186_1); (try rw [show 1 * 3 = 3 from rfl] at hx186_1); (try rw [show ((1 : Int)).toNat = 1 from rfl] at hx186_2); (try rw [show 1 * 3 = 3 from rfl] at hx186_2); replace p186 := eq_true p186; replace q186 := eq_true q186; obtain ⟨Ao45, co45, eo45⟩ := Kd.R_slice HO183.out; subst eo45))
                    go_ret
                    exact ⟨by first | rfl | (simp [errW_none, errW_some] <;> rfl) | (simp [*, errW_none, errW_some] <;> rfl), by repeat (first | (with_reducible first | exact HB.out | apply below_alloc | apply pw_below_drewN | apply below_drew1) | exact HB.out)⟩
              · rw [if_neg c10] at H
                have c10b0 : (((rd_T35 t177 1).f0) == 3) = false := beq_eq_false_iff_ne.mpr c10
                have c10b1 : (((rd_T35 t177 1).f0) != 3) = true := bne_iff_ne.mpr c10
                as_aux_lemma =>
                  obtain rfl := Option.some.inj H
                  go_enter Try.func22, Try.ntmps22
                  go_wp2_with (first | ((with_reducible refine gate_dst (N := 6) rfl ?_); (try (refine gate_guard (by rfl) ?_; dsimp only)); refine Kd.R_lit k35 _ 35 ?hg (N := 6) ?hd (xs := ([(⟨0, 8, false⟩ : S35)] : List (S35))) (inner := [.int .i64 0, .int .i64 8, .bool false]) (ok := fun _ => True) (okp := fun _ => True) ?hr ?hp (fun _ hk => hk) trivial (Below.refl _ _) (Nat.le_refl _) (by simp) ?_; (case hd => rfl); (case hg => rfl); (case hr => first | (go_simp; done) | (go_simp; rfl)); (case hp => exact (Reps.c3 (show Kd.M k35 _ _ _ (⟨0, 8, false⟩ : S35) [.int .i64 0, .int .i64 8, .bool false] from (k35_mkM _ _ _ (⟨0, 8, false⟩ : S35) )) (Reps.none _ _))); intro v175 w46 ho47 hb hg_ hnew_; clear hg_ hnew_; (first | rw [← Ny174.out] at ho47 | (simp only [Int.reduceToNat] at ho47; rw [← Ny174.out] at ho47)); have n0_ := Aside0.mk (Kd.R_lower ho47 (below_size (by repeat (first | (with_reducible first | exact HB.out | apply below_alloc | apply pw_below_drewN | apply below_drew1) | exact HB.out)))); have n1_ := Aside0.mk (below_step (by repeat (first | (with_reducible first | exact HB.out | apply below_alloc | apply pw_below_drewN | apply below_drew1) | exact HB.out)) hb); clear HB; have HO176 := n0_; have HB := n1_; clear n0_ n1_; clear hb ho47; obtain ⟨Ao48, co48, eo48⟩ := Kd.R_slice HO176.out; subst eo48) | ((with_reducible refine gate_callee (f := 23) rfl ?_); refine goesL_ (some 9) rfl rfl Try.func23 (by kernel_rfl) rfl #[.slice Ao48 y174.length co48, .int .i64 0, .int .i64 3] rfl (by (try simp only [List.map_toArray, List.map_cons, List.map_nil]); first | done | rfl | (simp only [List.length_drop, List.length_take]; rfl)) ?_; (with_reducible refine (carve_Blocks.calls k (fun k_ => some k_ = (.slice Ao48 y174.length co48 : Value).ownBlock) _ _ y174 0 3 t177 true _ ?side1 A1.out).mono ?_); (case side1 => exact Kd.R_V (Kd.R_tight rfl (HO176.out))); rintro e w49 ⟨v178, rfl, ho0, hb⟩; refine ⟨_, rfl, ?_⟩; have n0_ := Aside0.mk (Kd.R_elder' (by (with_reducible repeat (first | apply Kd.R_alloc | apply Kd.R_drewN | apply Kd.R_drew)); exact HO176.out) (Kd.R_base ho0) hb); have n1_ := Aside0.mk (Kd.R_lower (Kd.R_new' (Kd.R_mono (ok' := fun k_ => True) ho0 (fun _ hk_ => trivial)) (Kd.R_lt (by (with_reducible repeat (first | apply Kd.R_alloc | apply Kd.R_drewN | apply Kd.R_drew)); exact HO176.out))) (below_size (by repeat (first | (with_reducible first | exact HB.out | apply below_alloc | apply pw_below_drewN | apply below_drew1) | exact HB.out)))); have n2_ := Aside0.mk (below_step (by repeat (first | (with_reducible first | exact HB.out | apply below_alloc | apply pw_below_drewN | apply below_drew1) | exact HB.out)) hb); clear HO176; clear HB; have HO176 := n0_; have HO179 := n1_; have HB := n2_; clear n0_ n1_ n2_; (try clear hb); (try clear hb2); (try clear hk); (try clear hi); (try clear ho0)) | ((with_reducible refine gate_callee (f := 26) rfl ?_); refine goesL_ (some 13) rfl rfl Try.func26 (by kernel_rfl) rfl #[.slice Ao48 y174.length co48, .int .i64 0, .int .i64 3] rfl (by (try simp only [List.map_toArray, List.map_cons, List.map_nil]); first | done | rfl | (simp only [List.length_drop, List.length_take]; rfl)) ?_; (with_reducible refine (carve_Edits.calls k _ _ y174 0 3 t181 _ ?side1 ?side2 A2.out).mono ?_); (case side1 => repeat (first | exact (Kd.R_reads' HO176.out).2.2 | (with_reducible refine Kd.C_alloc ?_ _) | (with_reducible refine Kd.C_drewN ?_ _) | (with_reducible refine Kd.C_drew ?_))); (case side2 => exact (Kd.R_reads' HO176.out).2.1); rintro e w50 ⟨v182, rfl, ho0, hb⟩; refine ⟨_, rfl, ?_⟩; have n0_ := Aside0.mk (Kd.R_below (by (with_reducible repeat (first | apply Kd.R_alloc | apply Kd.R_drewN | apply Kd.R_drew)); exact HO176.out) hb); have n1_ := Aside0.mk (Kd.R_below (by (with_reducible repeat (first | apply Kd.R_alloc | apply Kd.R_drewN | apply Kd.R_drew)); exact HO179.out) hb); have n2_ := Aside0.mk (Kd.R_lower ho0 (below_size (by repeat (first | (with_reducible first | exact HB.out | apply below_alloc | apply pw_below_drewN | apply below_drew1) | exact HB.out)))); have n3_ := Aside0.mk (below_step (by repeat (first | (with_reducible first | exact HB.out | apply below_alloc | apply pw_below_drewN | apply below_drew1) | exact HB.out)) hb); clear HO176; clear HO179; clear HB; have HO176 := n0_; have HO179 := n1_; have HO183 := n2_; have HB := n3_; clear n0_ n1_ n2_ n3_; (try clear hb); (try clear hb2); (try clear hk); (try clear hi); (try clear ho0); obtain ⟨Ao51, co51, eo51⟩ := Kd.R_slice HO179.out; subst eo51; have p184 : 0 ≤ (0 : Int) := (by omega); have q184 : 0 < (t177.length : Int) := of_decide_eq_true (by first | (with_reducible assumption) | assumption); obtain ⟨ad184, e184, hx184_0, hx184_1, hx184_2⟩ := at_T35 (Kd.R_reads' HO179.out).2.2 0 p184 q184; (try rw [← Nbq6.out] at hx184_2); cases e184; have qi184 : (0 < t177.length) = True := eq_true (by omega); (try rw [show ((0 : Int)).toNat = 0 from rfl] at hx184_0); (try rw [show 0 * 3 = 0 from rfl] at hx184_0); (try rw [Addr.add_zero'] at hx184_0); (try rw [show ((0 : Int)).toNat = 0 from rfl] at hx184_1); (try rw [show 0 * 3 = 0 from rfl] at hx184_1); (try rw [Addr.add_zero'] at hx184_1); (try rw [show ((0 : Int)).toNat = 0 from rfl] at hx184_2); (try rw [show 0 * 3 = 0 from rfl] at hx184_2); (try rw [Addr.add_zero'] at hx184_2); replace p184 := eq_true p184; replace q184 := eq_true q184; have p185 : 0 ≤ (0 : Int) := (by omega); have q185 : 0 < (t177.length : Int) := of_decide_eq_true (by first | (with_reducible assumption) | assumption); obtain ⟨ad185, e185, hx185_0, hx185_1, hx185_2⟩ := at_T35 (Kd.R_reads' HO179.out).2.2 0 p185 q185; (try rw [← Nbq6.out] at hx185_2); obtain rfl : ad184 = ad185 := (by injection e185); have qi185 : (0 < t177.length) = True := eq_true (by omega); (try rw [show ((0 : Int)).toNat = 0 from rfl] at hx185_0); (try rw [show 0 * 3 = 0 from rfl] at hx185_0); (try rw [Addr.add_zero'] at hx185_0); (try rw [show ((0 : Int)).toNat = 0 from rfl] at hx185_1); (try rw [show 0 * 3 = 0 from rfl] at hx185_1); (try rw [Addr.add_zero'] at hx185_1); (try rw [show ((0 : Int)).toNat = 0 from rfl] at hx185_2); (try rw [show 0 * 3 = 0 from rfl] at hx185_2); (try rw [Addr.add_zero'] at hx185_2); replace p185 := eq_true p185; replace q185 := eq_true q185; have p186 : 0 ≤ (1 : Int) := (by omega); have q186 : 1 < (t177.length : Int) := of_decide_eq_true (by first | (with_reducible assumption) | assumption); obtain ⟨ad186, e186, hx186_0, hx186_1, hx186_2⟩ := at_T35 (Kd.R_reads' HO179.out).2.2 1 p186 q186; (try rw [← Nbq6.out] at hx186_2); obtain rfl : ad184 = ad186 := (by injection e186); (try simp only [show (1 : Int).toNat = 1 from rfl, Nat.reduceMul, Nat.reduceEqDiff, Go.Addr.add, ↓reduceIte] at hx186_0); (try simp only [show (1 : Int).toNat = 1 from rfl, Nat.reduceMul, Nat.reduceEqDiff, Go.Addr.add, ↓reduceIte] at hx186_1); (try simp only [show (1 : Int).toNat = 1 from rfl, Nat.reduceMul, Nat.reduceEqDiff, Go.Addr.add, ↓reduceIte] at hx186_2); have qi186 : (1 < t177.length) = True := eq_true (by omega); (try rw [show ((1 : Int)).toNat = 1 from rfl] at hx186_0); (try rw [show 1 * 3 = 3 from rfl] at hx186_0); (try rw [show ((1 : Int)).toNat = 1 from rfl] at hx186_1); (try rw [show 1 * 3 = 3 from rfl] at hx186_1); (try rw [show ((1 : Int)).toNat = 1 from rfl] at hx186_2); (try rw [show 1 * 3 = 3 from rfl] at hx186_2); replace p186 := eq_true p186; replace q186 := eq_true q186))
                  go_ret
                  exact ⟨by first | rfl | (simp [errW_none, errW_some] <;> rfl) | (simp [*, errW_none, errW_some] <;> rfl), by repeat (first | (with_reducible first | exact HB.out | apply below_alloc | apply pw_below_drewN | apply below_drew1) | exact HB.out)⟩
            · rw [if_neg c9] at H
              exact absurd H (by simp)
          · rw [if_neg c8] at H
            have c8b0 : (((rd_T35 t177 0).f1) == 3) = false := beq_eq_false_iff_ne.mpr c8
            have c8b1 : (((rd_T35 t177 0).f1) != 3) = true := bne_iff_ne.mpr c8
            as_aux_lemma =>
              obtain rfl := Option.some.inj H
              go_enter Try.func22, Try.ntmps22
              go_wp2_with (first | ((with_reducible refine gate_dst (N := 6) rfl ?_); (try (refine gate_guard (by rfl) ?_; dsimp only)); refine Kd.R_lit k35 _ 35 ?hg (N := 6) ?hd (xs := ([(⟨0, 8, false⟩ : S35)] : List (S35))) (inner := [.int .i64 0, .int .i64 8, .bool false]) (ok := fun _ => True) (okp := fun _ => True) ?hr ?hp (fun _ hk => hk) trivial (Below.refl _ _) (Nat.le_refl _) (by simp) ?_; (case hd => rfl); (case hg => rfl); (case hr => first | (go_simp; done) | (go_simp; rfl)); (case hp => exact (Reps.c3 (show Kd.M k35 _ _ _ (⟨0, 8, false⟩ : S35) [.int .i64 0, .int .i64 8, .bool false] from (k35_mkM _ _ _ (⟨0, 8, false⟩ : S35) )) (Reps.none _ _))); intro v175 w52 ho53 hb hg_ hnew_; clear hg_ hnew_; (first | rw [← Ny174.out] at ho53 | (simp only [Int.reduceToNat] at ho53; rw [← Ny174.out] at ho53)); have n0_ := Aside0.mk (Kd.R_lower ho53 (below_size (by repeat (first | (with_reducible first | exact HB.out | apply below_alloc | apply pw_below_drewN | apply below_drew1) | exact HB.out)))); have n1_ := Aside0.mk (below_step (by repeat (first | (with_reducible first | exact HB.out | apply below_alloc | apply pw_below_drewN | apply below_drew1) | exact HB.out)) hb); clear HB; have HO176 := n0_; have HB := n1_; clear n0_ n1_; clear hb ho53; obtain ⟨Ao54, co54, eo54⟩ := Kd.R_slice HO176.out; subst eo54) | ((with_reducible refine gate_callee (f := 23) rfl ?_); refine goesL_ (some 9) rfl rfl Try.func23 (by kernel_rfl) rfl #[.slice Ao54 y174.length co54, .int .i64 0, .int .i64 3] rfl (by (try simp only [List.map_toArray, List.map_cons, List.map_nil]); first | done | rfl | (simp only [List.length_drop, List.length_take]; rfl)) ?_; (with_reducible refine (carve_Blocks.calls k (fun k_ => some k_ = (.slice Ao54 y174.length co54 : Value).ownBlock) _ _ y174 0 3 t177 true _ ?side1 A1.out).mono ?_); (case side1 => exact Kd.R_V (Kd.R_tight rfl (HO176.out))); rintro e w55 ⟨v178, rfl, ho0, hb⟩; refine ⟨_, rfl, ?_⟩; have n0_ := Aside0.mk (Kd.R_elder' (by (with_reducible repeat (first | apply Kd.R_alloc | apply Kd.R_drewN | apply Kd.R_drew)); exact HO176.out) (Kd.R_base ho0) hb); have n1_ := Aside0.mk (Kd.R_lower (Kd.R_new' (Kd.R_mono (ok' := fun k_ => True) ho0 (fun _ hk_ => trivial)) (Kd.R_lt (by (with_reducible repeat (first | apply Kd.R_alloc | apply Kd.R_drewN | apply Kd.R_drew)); exact HO176.out))) (below_size (by repeat (first | (with_reducible first | exact HB.out | apply below_alloc | apply pw_below_drewN | apply below_drew1) | exact HB.out)))); have n2_ := Aside0.mk (below_step (by repeat (first | (with_reducible first | exact HB.out | apply below_alloc | apply pw_below_drewN | apply below_drew1) | exact HB.out)) hb); clear HO176; clear HB; have HO176 := n0_; have HO179 := n1_; have HB := n2_; clear n0_ n1_ n2_; (try clear hb); (try clear hb2); (try clear hk); (try clear hi); (try clear ho0)) | ((with_reducible refine gate_callee (f := 26) rfl ?_); refine goesL_ (some 13) rfl rfl Try.func26 (by kernel_rfl) rfl #[.slice Ao54 y174.length co54, .int .i64 0, .int .i64 3] rfl (by (try simp only [List.map_toArray, List.map_cons, List.map_nil]); first | done | rfl | (simp only [List.length_drop, List.length_take]; rfl)) ?_; (with_reducible refine (carve_Edits.calls k _ _ y174 0 3 t181 _ ?side1 ?side2 A2.out).mono ?_); (case side1 => repeat (first | exact (Kd.R_reads' HO176.out).2.2 | (with_reducible refine Kd.C_alloc ?_ _) | (with_reducible refine Kd.C_drewN ?_ _) | (with_reducible refine Kd.C_drew ?_))); (case side2 => exact (Kd.R_reads' HO176.out).2.1); rintro e w56 ⟨v182, rfl, ho0, hb⟩; refine ⟨_, rfl, ?_⟩; have n0_ := Aside0.mk (Kd.R_below (by (with_reducible repeat (first | apply Kd.R_alloc | apply Kd.R_drewN | apply Kd.R_drew)); exact HO176.out) hb); have n1_ := Aside0.mk (Kd.R_below (by (with_reducible repeat (first | apply Kd.R_alloc | apply Kd.R_drewN | apply Kd.R_drew)); exact HO179.out) hb); have n2_ := Aside0.mk (Kd.R_lower ho0 (below_size (by repeat (first | (with_reducible first | exact HB.out | apply below_alloc | apply pw_below_drewN | apply below_drew1) | exact HB.out)))); have n3_ := Aside0.mk (below_step (by repeat (first | (with_reducible first | exact HB.out | apply below_alloc | apply pw_below_drewN | apply below_drew1) | exact HB.out)) hb); clear HO176; clear HO179; clear HB; have HO176 := n0_; have HO179 := n1_; have HO183 := n2_; have HB := n3_; clear n0_ n1_ n2_ n3_; (try clear hb); (try clear hb2); (try clear hk); (try clear hi); (try clear ho0); obtain ⟨Ao57, co57, eo57⟩ := Kd.R_slice HO179.out; subst eo57; have p184 : 0 ≤ (0 : Int) := (by omega); have q184 : 0 < (t177.length : Int) := of_decide_eq_true (by first | (with_reducible assumption) | assumption); obtain ⟨ad184, e184, hx184_0, hx184_1, hx184_2⟩ := at_T35 (Kd.R_reads' HO179.out).2.2 0 p184 q184; (try rw [← Nbq6.out] at hx184_2); cases e184; have qi184 : (0 < t177.length) = True := eq_true (by omega); (try rw [show ((0 : Int)).toNat = 0 from rfl] at hx184_0); (try rw [show 0 * 3 = 0 from rfl] at hx184_0); (try rw [Addr.add_zero'] at hx184_0); (try rw [show ((0 : Int)).toNat = 0 from rfl] at hx184_1); (try rw [show 0 * 3 = 0 from rfl] at hx184_1); (try rw [Addr.add_zero'] at hx184_1); (try rw [show ((0 : Int)).toNat = 0 from rfl] at hx184_2); (try rw [show 0 * 3 = 0 from rfl] at hx184_2); (try rw [Addr.add_zero'] at hx184_2); replace p184 := eq_true p184; replace q184 := eq_true q184; have p185 : 0 ≤ (0 : Int) := (by omega); have q185 : 0 < (t177.length : Int) := of_decide_eq_true (by first | (with_reducible assumption) | assumption); obtain ⟨ad185, e185, hx185_0, hx185_1, hx185_2⟩ := at_T35 (Kd.R_reads' HO179.out).2.2 0 p185 q185; (try rw [← Nbq6.out] at hx185_2); obtain rfl : ad184 = ad185 := (by injection e185); have qi185 : (0 < t177.length) = True := eq_true (by omega); (try rw [show ((0 : Int)).toNat = 0 from rfl] at hx185_0); (try rw [show 0 * 3 = 0 from rfl] at hx185_0); (try rw [Addr.add_zero'] at hx185_0); (try rw [show ((0 : Int)).toNat = 0 from rfl] at hx185_1); (try rw [show 0 * 3 = 0 from rfl] at hx185_1); (try rw [Addr.add_zero'] at hx185_1); (try rw [show ((0 : Int)).toNat = 0 from rfl] at hx185_2); (try rw [show 0 * 3 = 0 from rfl] at hx185_2); (try rw [Addr.add_zero'] at hx185_2); replace p185 := eq_true p185; replace q185 := eq_true q185))
              go_ret
              exact ⟨by first | rfl | (simp [errW_none, errW_some] <;> rfl) | (simp [*, errW_none, errW_some] <;> rfl), by repeat (first | (with_reducible first | exact HB.out | apply below_alloc | apply pw_below_drewN | apply below_drew1) | exact HB.out)⟩
        · replace c7 := Bool.eq_false_iff.mpr c7
          subst c7
          have H1 : (some false) = some r := by rw [if_neg (show ¬ (false = true) by decide)] at H; exact H
          clear H
          have H := H1
          clear H1
          as_aux_lemma =>
            obtain rfl := Option.some.inj H
            go_enter Try.func22, Try.ntmps22
            go_wp2_with (first | ((with_reducible refine gate_dst (N := 6) rfl ?_); (try (refine gate_guard (by rfl) ?_; dsimp only)); refine Kd.R_lit k35 _ 35 ?hg (N := 6) ?hd (xs := ([(⟨0, 8, false⟩ : S35)] : List (S35))) (inner := [.int .i64 0, .int .i64 8, .bool false]) (ok := fun _ => True) (okp := fun _ => True) ?hr ?hp (fun _ hk => hk) trivial (Below.refl _ _) (Nat.le_refl _) (by simp) ?_; (case hd => rfl); (case hg => rfl); (case hr => first | (go_simp; done) | (go_simp; rfl)); (case hp => exact (Reps.c3 (show Kd.M k35 _ _ _ (⟨0, 8, false⟩ : S35) [.int .i64 0, .int .i64 8, .bool false] from (k35_mkM _ _ _ (⟨0, 8, false⟩ : S35) )) (Reps.none _ _))); intro v175 w58 ho59 hb hg_ hnew_; clear hg_ hnew_; (first | rw [← Ny174.out] at ho59 | (simp only [Int.reduceToNat] at ho59; rw [← Ny174.out] at ho59)); have n0_ := Aside0.mk (Kd.R_lower ho59 (below_size (by repeat (first | (with_reducible first | exact HB.out | apply below_alloc | apply pw_below_drewN | apply below_drew1) | exact HB.out)))); have n1_ := Aside0.mk (below_step (by repeat (first | (with_reducible first | exact HB.out | apply below_alloc | apply pw_below_drewN | apply below_drew1) | exact HB.out)) hb); clear HB; have HO176 := n0_; have HB := n1_; clear n0_ n1_; clear hb ho59; obtain ⟨Ao60, co60, eo60⟩ := Kd.R_slice HO176.out; subst eo60) | ((with_reducible refine gate_callee (f := 23) rfl ?_); refine goesL_ (some 9) rfl rfl Try.func23 (by kernel_rfl) rfl #[.slice Ao60 y174.length co60, .int .i64 0, .int .i64 3] rfl (by (try simp only [List.map_toArray, List.map_cons, List.map_nil]); first | done | rfl | (simp only [List.length_drop, List.length_take]; rfl)) ?_; (with_reducible refine (carve_Blocks.calls k (fun k_ => some k_ = (.slice Ao60 y174.length co60 : Value).ownBlock) _ _ y174 0 3 t177 true _ ?side1 A1.out).mono ?_); (case side1 => exact Kd.R_V (Kd.R_tight rfl (HO176.out))); rintro e w61 ⟨v178, rfl, ho0, hb⟩; refine ⟨_, rfl, ?_⟩; have n0_ := Aside0.mk (Kd.R_elder' (by (with_reducible repeat (first | apply Kd.R_alloc | apply Kd.R_drewN | apply Kd.R_drew)); exact HO176.out) (Kd.R_base ho0) hb); have n1_ := Aside0.mk (Kd.R_lower (Kd.R_new' (Kd.R_mono (ok' := fun k_ => True) ho0 (fun _ hk_ => trivial)) (Kd.R_lt (by (with_reducible repeat (first | apply Kd.R_alloc | apply Kd.R_drewN | apply Kd.R_drew)); exact HO176.out))) (below_size (by repeat (first | (with_reducible first | exact HB.out | apply below_alloc | apply pw_below_drewN | apply below_drew1) | exact HB.out)))); have n2_ := Aside0.mk (below_step (by repeat (first | (with_reducible first | exact HB.out | apply below_alloc | apply pw_below_drewN | apply below_drew1) | exact HB.out)) hb); clear HO176; clear HB; have HO176 := n0_; have HO179 := n1_; have HB := n2_; clear n0_ n1_ n2_; (try clear hb); (try clear hb2); (try clear hk); (try clear hi); (try clear ho0)) | ((with_reducible refine gate_callee (f := 26) rfl ?_); refine goesL_ (some 13) rfl rfl Try.func26 (by kernel_rfl) rfl #[.slice Ao60 y174.length co60, .int .i64 0, .int .i64 3] rfl (by (try simp only [List.map_toArray, List.map_cons, List.map_nil]); first | done | rfl | (simp only [List.length_drop, List.length_take]; rfl)) ?_; (with_reducible refine (carve_Edits.calls k _ _ y174 0 3 t181 _ ?side1 ?side2 A2.out).mono ?_); (case side1 => repeat (first | exact (Kd.R_reads' HO176.out).2.2 | (with_reducible refine Kd.C_alloc ?_ _) | (with_reducible refine Kd.C_drewN ?_ _) | (with_reducible refine Kd.C_drew ?_))); (case side2 => exact (Kd.R_reads' HO176.out).2.1); rintro e w62 ⟨v182, rfl, ho0, hb⟩; refine ⟨_, rfl, ?_⟩; have n0_ := Aside0.mk (Kd.R_below (by (with_reducible repeat (first | apply Kd.R_alloc | apply Kd.R_drewN | apply Kd.R_drew)); exact HO176.out) hb); have n1_ := Aside0.mk (Kd.R_below (by (with_reducible repeat (first | apply Kd.R_alloc | apply Kd.R_drewN | apply Kd.R_drew)); exact HO179.out) hb); have n2_ := Aside0.mk (Kd.R_lower ho0 (below_size (by repeat (first | (with_reducible first | exact HB.out | apply below_alloc | apply pw_below_drewN | apply below_drew1) | exact HB.out)))); have n3_ := Aside0.mk (below_step (by repeat (first | (with_reducible first | exact HB.out | apply below_alloc | apply pw_below_drewN | apply below_drew1) | exact HB.out)) hb); clear HO176; clear HO179; clear HB; have HO176 := n0_; have HO179 := n1_; have HO183 := n2_; have HB := n3_; clear n0_ n1_ n2_ n3_; (try clear hb); (try clear hb2); (try clear hk); (try clear hi); (try clear ho0); obtain ⟨Ao63, co63, eo63⟩ := Kd.R_slice HO179.out; subst eo63; have p184 : 0 ≤ (0 : Int) := (by omega); have q184 : 0 < (t177.length : Int) := of_decide_eq_true (by first | (with_reducible assumption) | assumption); obtain ⟨ad184, e184, hx184_0, hx184_1, hx184_2⟩ := at_T35 (Kd.R_reads' HO179.out).2.2 0 p184 q184; (try rw [← Nbq6.out] at hx184_2); cases e184; have qi184 : (0 < t177.length) = True := eq_true (by omega); (try rw [show ((0 : Int)).toNat = 0 from rfl] at hx184_0); (try rw [show 0 * 3 = 0 from rfl] at hx184_0); (try rw [Addr.add_zero'] at hx184_0); (try rw [show ((0 : Int)).toNat = 0 from rfl] at hx184_1); (try rw [show 0 * 3 = 0 from rfl] at hx184_1); (try rw [Addr.add_zero'] at hx184_1); (try rw [show ((0 : Int)).toNat = 0 from rfl] at hx184_2); (try rw [show 0 * 3 = 0 from rfl] at hx184_2); (try rw [Addr.add_zero'] at hx184_2); replace p184 := eq_true p184; replace q184 := eq_true q184))
            go_ret
            exact ⟨by first | rfl | (simp [errW_none, errW_some] <;> rfl) | (simp [*, errW_none, errW_some] <;> rfl), by repeat (first | (with_reducible first | exact HB.out | apply below_alloc | apply pw_below_drewN | apply below_drew1) | exact HB.out)⟩
      · rw [if_neg c5] at H
        exact absurd H (by simp)
    · rw [if_neg c4] at H
      have c4b0 : ((t177.length : Int) == 2) = false := beq_eq_false_iff_ne.mpr c4
      have c4b1 : ((t177.length : Int) != 2) = true := bne_iff_ne.mpr c4
      as_aux_lemma =>
        obtain rfl := Option.some.inj H
        go_enter Try.func22, Try.ntmps22
        go_wp2_with (first | ((with_reducible refine gate_dst (N := 6) rfl ?_); (try (refine gate_guard (by rfl) ?_; dsimp only)); refine Kd.R_lit k35 _ 35 ?hg (N := 6) ?hd (xs := ([(⟨0, 8, false⟩ : S35)] : List (S35))) (inner := [.int .i64 0, .int .i64 8, .bool false]) (ok := fun _ => True) (okp := fun _ => True) ?hr ?hp (fun _ hk => hk) trivial (Below.refl _ _) (Nat.le_refl _) (by simp) ?_; (case hd => rfl); (case hg => rfl); (case hr => first | (go_simp; done) | (go_simp; rfl)); (case hp => exact (Reps.c3 (show Kd.M k35 _ _ _ (⟨0, 8, false⟩ : S35) [.int .i64 0, .int .i64 8, .bool false] from (k35_mkM _ _ _ (⟨0, 8, false⟩ : S35) )) (Reps.none _ _))); intro v175 w64 ho65 hb hg_ hnew_; clear hg_ hnew_; (first | rw [← Ny174.out] at ho65 | (simp only [Int.reduceToNat] at ho65; rw [← Ny174.out] at ho65)); have n0_ := Aside0.mk (Kd.R_lower ho65 (below_size (by repeat (first | (with_reducible first | exact HB.out | apply below_alloc | apply pw_below_drewN | apply below_drew1) | exact HB.out)))); have n1_ := Aside0.mk (below_step (by repeat (first | (with_reducible first | exact HB.out | apply below_alloc | apply pw_below_drewN | apply below_drew1) | exact HB.out)) hb); clear HB; have HO176 := n0_; have HB := n1_; clear n0_ n1_; clear hb ho65; obtain ⟨Ao66, co66, eo66⟩ := Kd.R_slice HO176.out; subst eo66) | ((with_reducible refine gate_callee (f := 23) rfl ?_); refine goesL_ (some 9) rfl rfl Try.func23 (by kernel_rfl) rfl #[.slice Ao66 y174.length co66, .int .i64 0, .int .i64 3] rfl (by (try simp only [List.map_toArray, List.map_cons, List.map_nil]); first | done | rfl | (simp only [List.length_drop, List.length_take]; rfl)) ?_; (with_reducible refine (carve_Blocks.calls k (fun k_ => some k_ = (.slice Ao66 y174.length co66 : Value).ownBlock) _ _ y174 0 3 t177 true _ ?side1 A1.out).mono ?_); (case side1 => exact Kd.R_V (Kd.R_tight rfl (HO176.out))); rintro e w67 ⟨v178, rfl, ho0, hb⟩; refine ⟨_, rfl, ?_⟩; have n0_ := Aside0.mk (Kd.R_elder' (by (with_reducible repeat (first | apply Kd.R_alloc | apply Kd.R_drewN | apply Kd.R_drew)); exact HO176.out) (Kd.R_base ho0) hb); have n1_ := Aside0.mk (Kd.R_lower (Kd.R_new' (Kd.R_mono (ok' := fun k_ => True) ho0 (fun _ hk_ => trivial)) (Kd.R_lt (by (with_reducible repeat (first | apply Kd.R_alloc | apply Kd.R_drewN | apply Kd.R_drew)); exact HO176.out))) (below_size (by repeat (first | (with_reducible first | exact HB.out | apply below_alloc | apply pw_below_drewN | apply below_drew1) | exact HB.out)))); have n2_ := Aside0.mk (below_step (by repeat (first | (with_reducible first | exact HB.out | apply below_alloc | apply pw_below_drewN | apply below_drew1) | exact HB.out)) hb); clear HO176; clear HB; have HO176 := n0_; have HO179 := n1_; have HB := n2_; clear n0_ n1_ n2_; (try clear hb); (try clear hb2); (try clear hk); (try clear hi); (try clear ho0)) | ((with_reducible refine gate_callee (f := 26) rfl ?_); refine goesL_ (some 13) rfl rfl Try.func26 (by kernel_rfl) rfl #[.slice Ao66 y174.length co66, .int .i64 0, .int .i64 3] rfl (by (try simp only [List.map_toArray, List.map_cons, List.map_nil]); first | done | rfl | (simp only [List.length_drop, List.length_take]; rfl)) ?_; (with_reducible refine (carve_Edits.calls k _ _ y174 0 3 t181 _ ?side1 ?side2 A2.out).mono ?_); (case side1 => repeat (first | exact (Kd.R_reads' HO176.out).2.2 | (with_reducible refine Kd.C_alloc ?_ _) | (with_reducible refine Kd.C_drewN ?_ _) | (with_reducible refine Kd.C_drew ?_))); (case side2 => exact (Kd.R_reads' HO176.out).2.1); rintro e w68 ⟨v182, rfl, ho0, hb⟩; refine ⟨_, rfl, ?_⟩; have n0_ := Aside0.mk (Kd.R_below (by (with_reducible repeat (first | apply Kd.R_alloc | apply Kd.R_drewN | apply Kd.R_drew)); exact HO176.out) hb); have n1_ := Aside0.mk (Kd.R_below (by (with_reducible repeat (first | apply Kd.R_alloc | apply Kd.R_drewN | apply Kd.R_drew)); exact HO179.out) hb); have n2_ := Aside0.mk (Kd.R_lower ho0 (below_size (by repeat (first | (with_reducible first | exact HB.out | apply below_alloc | apply pw_below_drewN | apply below_drew1) | exact HB.out)))); have n3_ := Aside0.mk (below_step (by repeat (first | (with_reducible first | exact HB.out | apply below_alloc | apply pw_below_drewN | apply below_drew1) | exact HB.out)) hb); clear HO176; clear HO179; clear HB; have HO176 := n0_; have HO179 := n1_; have HO183 := n2_; have HB := n3_; clear n0_ n1_ n2_ n3_; (try clear hb); (try clear hb2); (try clear hk); (try clear hi); (try clear ho0); obtain ⟨Ao69, co69, eo69⟩ := Kd.R_slice HO179.out; subst eo69))
        go_ret
        exact ⟨by first | rfl | (simp [errW_none, errW_some] <;> rfl) | (simp [*, errW_none, errW_some] <;> rfl), by repeat (first | (with_reducible first | exact HB.out | apply below_alloc | apply pw_below_drewN | apply below_drew1) | exact HB.out)⟩
  · replace c3 := Bool.eq_false_iff.mpr c3
    subst c3
    have H1 : (some false) = some r := by rw [if_neg (show ¬ (false = true) by decide)] at H; exact H
    clear H
    have H := H1
    clear H1
    as_aux_lemma =>
      obtain rfl := Option.some.inj H
      go_enter Try.func22, Try.ntmps22
      go_wp2_with (first | ((with_reducible refine gate_dst (N := 6) rfl ?_); (try (refine gate_guard (by rfl) ?_; dsimp only)); refine Kd.R_lit k35 _ 35 ?hg (N := 6) ?hd (xs := ([(⟨0, 8, false⟩ : S35)] : List (S35))) (inner := [.int .i64 0, .int .i64 8, .bool false]) (ok := fun _ => True) (okp := fun _ => True) ?hr ?hp (fun _ hk => hk) trivial (Below.refl _ _) (Nat.le_refl _) (by simp) ?_; (case hd => rfl); (case hg => rfl); (case hr => first | (go_simp; done) | (go_simp; rfl)); (case hp => exact (Reps.c3 (show Kd.M k35 _ _ _ (⟨0, 8, false⟩ : S35) [.int .i64 0, .int .i64 8, .bool false] from (k35_mkM _ _ _ (⟨0, 8, false⟩ : S35) )) (Reps.none _ _))); intro v175 w70 ho71 hb hg_ hnew_; clear hg_ hnew_; (first | rw [← Ny174.out] at ho71 | (simp only [Int.reduceToNat] at ho71; rw [← Ny174.out] at ho71)); have n0_ := Aside0.mk (Kd.R_lower ho71 (below_size (by repeat (first | (with_reducible first | exact HB.out | apply below_alloc | apply pw_below_drewN | apply below_drew1) | exact HB.out)))); have n1_ := Aside0.mk (below_step (by repeat (first | (with_reducible first | exact HB.out | apply below_alloc | apply pw_below_drewN | apply below_drew1) | exact HB.out)) hb); clear HB; have HO176 := n0_; have HB := n1_; clear n0_ n1_; clear hb ho71; obtain ⟨Ao72, co72, eo72⟩ := Kd.R_slice HO176.out; subst eo72) | ((with_reducible refine gate_callee (f := 23) rfl ?_); refine goesL_ (some 9) rfl rfl Try.func23 (by kernel_rfl) rfl #[.slice Ao72 y174.length co72, .int .i64 0, .int .i64 3] rfl (by (try simp only [List.map_toArray, List.map_cons, List.map_nil]); first | done | rfl | (simp only [List.length_drop, List.length_take]; rfl)) ?_; (with_reducible refine (carve_Blocks.calls k (fun k_ => some k_ = (.slice Ao72 y174.length co72 : Value).ownBlock) _ _ y174 0 3 t177 false _ ?side1 A1.out).mono ?_); (case side1 => exact Kd.R_V (Kd.R_tight rfl (HO176.out))); rintro e w73 ⟨v178, rfl, ho0, hb⟩; refine ⟨_, rfl, ?_⟩; have n0_ := Aside0.mk (Kd.R_elder' (by (with_reducible repeat (first | apply Kd.R_alloc | apply Kd.R_drewN | apply Kd.R_drew)); exact HO176.out) (Kd.R_base ho0) hb); have n1_ := Aside0.mk (Kd.R_lower (Kd.R_new' (Kd.R_mono (ok' := fun k_ => True) ho0 (fun _ hk_ => trivial)) (Kd.R_lt (by (with_reducible repeat (first | apply Kd.R_alloc | apply Kd.R_drewN | apply Kd.R_drew)); exact HO176.out))) (below_size (by repeat (first | (with_reducible first | exact HB.out | apply below_alloc | apply pw_below_drewN | apply below_drew1) | exact HB.out)))); have n2_ := Aside0.mk (below_step (by repeat (first | (with_reducible first | exact HB.out | apply below_alloc | apply pw_below_drewN | apply below_drew1) | exact HB.out)) hb); clear HO176; clear HB; have HO176 := n0_; have HO179 := n1_; have HB := n2_; clear n0_ n1_ n2_; (try clear hb); (try clear hb2); (try clear hk); (try clear hi); (try clear ho0)) | ((with_reducible refine gate_callee (f := 26) rfl ?_); refine goesL_ (some 13) rfl rfl Try.func26 (by kernel_rfl) rfl #[.slice Ao72 y174.length co72, .int .i64 0, .int .i64 3] rfl (by (try simp only [List.map_toArray, List.map_cons, List.map_nil]); first | done | rfl | (simp only [List.length_drop, List.length_take]; rfl)) ?_; (with_reducible refine (carve_Edits.calls k _ _ y174 0 3 t181 _ ?side1 ?side2 A2.out).mono ?_); (case side1 => repeat (first | exact (Kd.R_reads' HO176.out).2.2 | (with_reducible refine Kd.C_alloc ?_ _) | (with_reducible refine Kd.C_drewN ?_ _) | (with_reducible refine Kd.C_drew ?_))); (case side2 => exact (Kd.R_reads' HO176.out).2.1); rintro e w74 ⟨v182, rfl, ho0, hb⟩; refine ⟨_, rfl, ?_⟩; have n0_ := Aside0.mk (Kd.R_below (by (with_reducible repeat (first | apply Kd.R_alloc | apply Kd.R_drewN | apply Kd.R_drew)); exact HO176.out) hb); have n1_ := Aside0.mk (Kd.R_below (by (with_reducible repeat (first | apply Kd.R_alloc | apply Kd.R_drewN | apply Kd.R_drew)); exact HO179.out) hb); have n2_ := Aside0.mk (Kd.R_lower ho0 (below_size (by repeat (first | (with_reducible first | exact HB.out | apply below_alloc | apply pw_below_drewN | apply below_drew1) | exact HB.out)))); have n3_ := Aside0.mk (below_step (by repeat (first | (with_reducible first | exact HB.out | apply below_alloc | apply pw_below_drewN | apply below_drew1) | exact HB.out)) hb); clear HO176; clear HO179; clear HB; have HO176 := n0_; have HO179 := n1_; have HO183 := n2_; have HB := n3_; clear n0_ n1_ n2_ n3_; (try clear hb); (try clear hb2); (try clear hk); (try clear hi); (try clear ho0)))
      go_ret
      exact ⟨by first | rfl | (simp [errW_none, errW_some] <;> rfl) | (simp [*, errW_none, errW_some] <;> rfl), by repeat (first | (with_reducible first | exact HB.out | apply below_alloc | apply pw_below_drewN | apply below_drew1) | exact HB.out)⟩

/-! ### darningref4_Word: function 20 -/
def darningref4_Word.f (a0 : Int) (a1 : Bool) : Option (Int) := (darningref4_MaySize.f a0).bind fun t191 => (if t191 = true then (if a1 = true then (some (Go.bits .or .u64 (IntKind.u64.wrap ((IntKind.u64.wrap (a0)) * 2)) 1)) else (some (IntKind.u64.wrap ((IntKind.u64.wrap (a0)) * 2)))) else (some 0))
set_option maxHeartbeats 8000000 in
set_option maxRecDepth 100000 in
theorem darningref4_Word.calls (a0 : Int) (a1 : Bool) (r : Int) (w : World) (h : darningref4_Word.f a0 a1 = some r) :
    Calls Try.prog 20 #[.int .i64 a0, .bool a1] w fun e w' => e = .returned (.int .u64 r) ∧ Drawn0 w w' := by
  have H : ((darningref4_MaySize.f a0).bind fun t191 => (if t191 = true then (if a1 = true then (some (Go.bits .or .u64 (IntKind.u64.wrap ((IntKind.u64.wrap (a0)) * 2)) 1)) else (some (IntKind.u64.wrap ((IntKind.u64.wrap (a0)) * 2)))) else (some 0))) = some r := h
  clear h
  replace H := Option.bind_eq_some_iff.mp H
  obtain ⟨t191, A30, H⟩ := H
  replace H : (if t191 = true then (if a1 = true then (some (Go.bits .or .u64 (IntKind.u64.wrap ((IntKind.u64.wrap (a0)) * 2)) 1)) else (some (IntKind.u64.wrap ((IntKind.u64.wrap (a0)) * 2)))) else (some 0)) = some r := H
  have A3 := Aside0.mk A30
  clear A30
  by_cases c4 : t191 = true
  · subst c4
    have H1 : (if a1 = true then (some (Go.bits .or .u64 (IntKind.u64.wrap ((IntKind.u64.wrap (a0)) * 2)) 1)) else (some (IntKind.u64.wrap ((IntKind.u64.wrap (a0)) * 2)))) = some r := by rw [if_pos rfl] at H; exact H
    clear H
    have H := H1
    clear H1
    by_cases c5 : a1 = true
    · subst c5
      have H1 : (some (Go.bits .or .u64 (IntKind.u64.wrap ((IntKind.u64.wrap (a0)) * 2)) 1)) = some r := by rw [if_pos rfl] at H; exact H
      clear H
      have H := H1
      clear H1
      as_aux_lemma =>
        obtain rfl := Option.some.inj H
        go_enter Try.func20, Try.ntmps20
        go_wp2_with (first | ((with_reducible refine gate_callee (f := 62) rfl ?_); refine goesL_ (some 7) rfl rfl Try.func62 (by kernel_rfl) rfl #[.int .i64 a0] rfl (by (try simp only [List.map_toArray, List.map_cons, List.map_nil]); first | done | rfl | (simp only [List.length_drop, List.length_take]; rfl)) ?_; (with_reducible refine (darningref4_MaySize.calls a0 true _ A3.out).mono ?_); rintro e w' ⟨rfl, ⟨nd, rfl⟩⟩; refine ⟨_, rfl, ?_⟩))
        go_ret
        exact ⟨by first | rfl | (simp; done) | (simp [*]; done), by repeat (first | exact Drawn0.refl _ | apply Drawn0.step)⟩
    · replace c5 := Bool.eq_false_iff.mpr c5
      subst c5
      have H1 : (some (IntKind.u64.wrap ((IntKind.u64.wrap (a0)) * 2))) = some r := by rw [if_neg (show ¬ (false = true) by decide)] at H; exact H
      clear H
      have H := H1
      clear H1
      as_aux_lemma =>
        obtain rfl := Option.some.inj H
        go_enter Try.func20, Try.ntmps20
        go_wp2_with (first | ((with_reducible refine gate_callee (f := 62) rfl ?_); refine goesL_ (some 7) rfl rfl Try.func62 (by kernel_rfl) rfl #[.int .i64 a0] rfl (by (try simp only [List.map_toArray, List.map_cons, List.map_nil]); first | done | rfl | (simp only [List.length_drop, List.length_take]; rfl)) ?_; (with_reducible refine (darningref4_MaySize.calls a0 true _ A3.out).mono ?_); rintro e w' ⟨rfl, ⟨nd, rfl⟩⟩; refine ⟨_, rfl, ?_⟩))
        go_ret
        exact ⟨by first | rfl | (simp; done) | (simp [*]; done), by repeat (first | exact Drawn0.refl _ | apply Drawn0.step)⟩
  · replace c4 := Bool.eq_false_iff.mpr c4
    subst c4
    have H1 : (some 0) = some r := by rw [if_neg (show ¬ (false = true) by decide)] at H; exact H
    clear H
    have H := H1
    clear H1
    as_aux_lemma =>
      obtain rfl := Option.some.inj H
      go_enter Try.func20, Try.ntmps20
      go_wp2_with (first | ((with_reducible refine gate_callee (f := 62) rfl ?_); refine goesL_ (some 7) rfl rfl Try.func62 (by kernel_rfl) rfl #[.int .i64 a0] rfl (by (try simp only [List.map_toArray, List.map_cons, List.map_nil]); first | done | rfl | (simp only [List.length_drop, List.length_take]; rfl)) ?_; (with_reducible refine (darningref4_MaySize.calls a0 false _ A3.out).mono ?_); rintro e w' ⟨rfl, ⟨nd, rfl⟩⟩; refine ⟨_, rfl, ?_⟩))
      go_ret
      exact ⟨by first | rfl | (simp; done) | (simp [*]; done), by repeat (first | exact Drawn0.refl _ | apply Drawn0.step)⟩

/-! ### darninglaw14_Words: function 33 -/
def darninglaw14_Words.l0 : Nat → List Int → List (S35) → Int → Int → Option (List Int)
  | 0, _, _, _, _ => none
  | k + 1, x5, x12, x13, x14 => if x14 < x13 then (if 0 ≤ x14 then (if x14 < (x12.length : Int) then (if ((rd_T35 x12 x14).f0) ≥ 0 then (if ((rd_T35 x12 x14).f0) < (x5.length : Int) then ((darningref4_Word.f ((rd_T35 x12 x14).f1) ((rd_T35 x12 x14).f2)).bind fun t197 => (if 0 ≤ ((rd_T35 x12 x14).f0) then (darninglaw14_Words.l0 k (x5.set (((rd_T35 x12 x14).f0) : Int).toNat t197) x12 x13 (wrap64 (x14 + 1))) else (none))) else (darninglaw14_Words.l0 k x5 x12 x13 (wrap64 (x14 + 1)))) else (darninglaw14_Words.l0 k x5 x12 x13 (wrap64 (x14 + 1)))) else (none)) else (none)) else (some x5)
def darninglaw14_Words.f (k : Nat) (l0 : List (S35)) (a1 : Int) : Option (List Int) := if 0 ≤ (mx 0 (mn a1 512)) then (if (mx 0 (mn a1 512) : Int).toNat ≤ 35184372088832 then (darninglaw14_Words.l0 k (List.replicate (mx 0 (mn a1 512) : Int).toNat 0) l0 (l0.length : Int) 0) else (none)) else (none)
theorem darninglaw14_Words.mono_l : ∀ k, (∀ y0 y1 y2 y3, LeO (darninglaw14_Words.l0 k y0 y1 y2 y3) (darninglaw14_Words.l0 (k + 1) y0 y1 y2 y3))
  | 0 => fun _ _ _ _ r h => by simp [darninglaw14_Words.l0] at h
  | k + 1 => by
    have ih0 := darninglaw14_Words.mono_l k
    · intro y0 y1 y2 y3
      unfold darninglaw14_Words.l0
      repeat' first
      | (with_reducible exact ih0 _ _ _ _)
      | (with_reducible exact LeO.refl _)
      | (with_reducible exact LeO.none _)
      | (with_reducible refine LeO.ite ?_ ?_)
      | (with_reducible refine LeO.bind ?_ (fun _ => ?_))
      | exact ih0 _ _ _ _
      | exact LeO.none _
      | refine LeO.ite ?_ ?_
      | refine LeO.bind ?_ (fun _ => ?_)
theorem darninglaw14_Words.mono : ∀ a0 a1 k, LeO (darninglaw14_Words.f k a0 a1) (darninglaw14_Words.f (k + 1) a0 a1) := by
  intro a0 a1 k
  have ih0 := darninglaw14_Words.mono_l k
  unfold darninglaw14_Words.f
  repeat' first
      | (with_reducible exact ih0 _ _ _ _)
      | (with_reducible exact LeO.refl _)
      | (with_reducible exact LeO.none _)
      | (with_reducible refine LeO.ite ?_ ?_)
      | (with_reducible refine LeO.bind ?_ (fun _ => ?_))
      | exact ih0 _ _ _ _
      | exact LeO.none _
      | refine LeO.ite ?_ ?_
      | refine LeO.bind ?_ (fun _ => ?_)
def darninglaw14_Words.T6 : Bool × List (List Nat × List Nat) := (true, [([], []), ([], []), ([1], [1]), ([], []), ([3], [3]), ([], []), ([5], [5]), ([4, 6], [4, 6]), ([0, 2, 0, 1, 2, 3, 4, 5, 6, 7], [0, 2]), ([8, 7, 7, 0, 1, 2, 3, 4, 5, 6, 7], [7, 8])])
def darninglaw14_Words.B6 : List Nat := [0, 0, 2, 0, 8, 0, 32, 120, 255, 511]
theorem darninglaw14_Words.tab6 : rtab .any (opsOf Try.f33 6) = darninglaw14_Words.T6 := by kernel_rfl
theorem darninglaw14_Words.bits6 : waitsOk darninglaw14_Words.T6.2 darninglaw14_Words.B6 = true := by kernel_rfl
set_option maxHeartbeats 8000000 in
set_option maxRecDepth 100000 in
theorem darninglaw14_Words.calls (k : Nat) (A0 : Option Addr) (c0 : Nat) (l0 : List (S35)) (a1 : Int) (r : List Int) (w : World) (hr0 : Kd.C k35 w A0 l0.length l0) (hc0 : l0.length ≤ c0) (h : darninglaw14_Words.f k l0 a1 = some r) :
    Calls Try.prog 33 #[.slice A0 l0.length c0, .int .i64 a1] w fun e w' => ∃ v0_ : Value, e = .returned (v0_) ∧ Kd.R (Kd.int .u64) 28 w' w.heap.size (fun _ => True) v0_ r ∧ Below w.heap.size w w' := by
  have hu35 := Try.underlying35
  have HR0 := Aside0.mk hr0
  have HC0 := Aside0.mk hc0
  clear hr0 hc0
  have HB := Aside0.mk (Below.refl w.heap.size w)
  have H : (if 0 ≤ (mx 0 (mn a1 512)) then (if (mx 0 (mn a1 512) : Int).toNat ≤ 35184372088832 then (darninglaw14_Words.l0 k (List.replicate (mx 0 (mn a1 512) : Int).toNat 0) l0 (l0.length : Int) 0) else (none)) else (none)) = some r := h
  clear h
  obtain ⟨ji3, hji3⟩ : ∃ j_ : Int, (mn a1 512) = j_ := ⟨_, rfl⟩
  replace H : (if 0 ≤ (mx 0 (ji3)) then (if (mx 0 (ji3) : Int).toNat ≤ 35184372088832 then (darninglaw14_Words.l0 k (List.replicate (mx 0 (ji3) : Int).toNat 0) l0 (l0.length : Int) 0) else (none)) else (none)) = some r := by first | (rw [hji3] at H; exact H) | (simp only [hji3] at H ⊢; exact H)
  (try (have hji3h : ji3 ≤ 512 := by (rw [← hji3]; unfold mn; (repeat' split) <;> omega)))
  (try (have hji3g : ji3 ≤ 64 := by omega))
  have hji3_ : (if 512 < a1 then 512 else a1) = ji3 := hji3
  obtain ⟨ji4, hji4⟩ : ∃ j_ : Int, (mx 0 (ji3)) = j_ := ⟨_, rfl⟩
  replace H : (if 0 ≤ (ji4) then (if (ji4 : Int).toNat ≤ 35184372088832 then (darninglaw14_Words.l0 k (List.replicate (ji4 : Int).toNat 0) l0 (l0.length : Int) 0) else (none)) else (none)) = some r := by first | (rw [hji4] at H; exact H) | (simp only [hji4] at H ⊢; exact H)
  have hji4_ : (if 0 < (ji3) then (ji3) else 0) = ji4 := hji4
  by_cases c5 : 0 ≤ (ji4)
  · rw [if_pos c5] at H
    have c5b0 := eq_true c5
    have c5b1 : decide (0 ≤ (ji4)) = true := decide_eq_true c5
    clear c5
    by_cases c6 : (ji4 : Int).toNat ≤ 35184372088832
    · rw [if_pos c6] at H
      have c6b0 := eq_true c6
      have c6b1 : decide ((ji4 : Int).toNat ≤ 35184372088832) = true := decide_eq_true c6
      clear c6
      obtain ⟨y192, hy192⟩ : ∃ y_ : List Int, y_ = (List.replicate (ji4 : Int).toNat 0) := ⟨_, rfl⟩
      replace H : (darninglaw14_Words.l0 k y192 l0 (l0.length : Int) 0) = some r := by first | (rw [hy192]; with_reducible exact H) | (have H2_ := (Option.bind_some _ _).symm.trans H; rw [hy192]; with_reducible exact H2_) | (have H2_ := (Option.bind_some _ _).symm.trans H; with_reducible exact H2_) | with_reducible exact H | (rw [hy192]; exact H) | exact H
      have Ny192 := Aside0.mk hy192
      clear hy192
      have H' := Aside0.mk H
      clear H
      go_enter Try.func33, Try.ntmps33
      go_wp2_with (first | ((with_reducible refine gate_dst (N := 11) rfl ?_); (try (refine gate_guard (by rfl) ?_; dsimp only)); refine Kd.R_make (Kd.int .u64) _ 28 rfl (N := 11) rfl 50 _ _ rfl ji4 rfl rfl Try.underlying50 (.int .u64 0) 8 info28 rfl (by decide) (by omega) 0 (ok := fun _ => True) (okp := fun _ => True) rfl (fun _ hk => hk) trivial (of_decide_eq_true (by first | (with_reducible assumption) | assumption)) (Nat.le_trans (Nat.mul_le_mul_right _ (of_decide_eq_true (by first | (with_reducible assumption) | assumption) : ji4.toNat ≤ 35184372088832)) (by omega)) (Below.refl _ _) (Nat.le_refl _) ?_; intro v193 w7 ho8 hb hg_ hnew_; clear hg_ hnew_; (first | rw [← Ny192.out] at ho8 | (simp only [Int.reduceToNat] at ho8; rw [← Ny192.out] at ho8)); have n0_ := Aside0.mk (Kd.R_lower ho8 (below_size (by repeat (first | (with_reducible first | exact HB.out | apply below_alloc | apply pw_below_drewN | apply below_drew1) | exact HB.out)))); have n1_ := Aside0.mk (below_step (by repeat (first | (with_reducible first | exact HB.out | apply below_alloc | apply pw_below_drewN | apply below_drew1) | exact HB.out)) hb); clear HB; have HO194 := n0_; have HB := n1_; clear n0_ n1_; clear hb ho8))
      go_loopg [14] k (fun kq v14 w' => ∃ (x5_1 : List Int) (x14_1 : Int), v14 = .int .i64 x14_1 ∧ Aside0 (darninglaw14_Words.l0 kq x5_1 l0 (l0.length : Int) x14_1 = some r) ∧ Aside0 (kq ≤ k) ∧ Aside0 (Kd.R (Kd.int .u64) 28 w' w.heap.size (fun _ => True) v193 x5_1) ∧ Aside0 (Below w.heap.size w w'))
      case atStart => exact ⟨(y192), (0), (by first | rfl | (simp; done) | (simp [*]; done)), H', ⟨Nat.le_refl _⟩, ⟨by (with_reducible repeat (first | apply Kd.R_alloc | apply Kd.R_drewN | apply Kd.R_drew)); exact HO194.out⟩, ⟨by repeat (first | (with_reducible first | exact HB.out | apply below_alloc | apply pw_below_drewN | apply below_drew1) | exact HB.out)⟩⟩
      case round =>
        clear H'
        try clear p2
        try clear c3
        try clear c5
        try clear c5b0
        try clear c5b1
        try clear c6
        try clear c6b0
        try clear c6b1
        obtain ⟨x5_1, x14_1, rfl, HA, HK1, HO_5, HB⟩ := hrel
        cases gk with
        | zero => exact absurd HA.out (by simp [darninglaw14_Words.l0])
        | succ k1 =>
          have H := HA.out
          clear HA
          simp only [darninglaw14_Words.l0] at H
          by_cases c9 : x14_1 < (l0.length : Int)
          · rw [if_pos c9] at H
            have c9b0 : decide (x14_1 < (l0.length : Int)) = true := decide_eq_true c9
            clear c9
            by_cases c10 : 0 ≤ x14_1
            · rw [if_pos c10] at H
              have c10b0 : decide (0 ≤ x14_1) = true := decide_eq_true c10
              clear c10
              by_cases c11 : x14_1 < (l0.length : Int)
              · rw [if_pos c11] at H
                have c11b0 : decide (x14_1 < (l0.length : Int)) = true := decide_eq_true c11
                clear c11
                by_cases c12 : ((rd_T35 l0 x14_1).f0) ≥ 0
                · rw [if_pos c12] at H
                  have c12b0 : decide (0 ≤ ((rd_T35 l0 x14_1).f0)) = true := decide_eq_true c12
                  clear c12
                  by_cases c13 : ((rd_T35 l0 x14_1).f0) < (x5_1.length : Int)
                  · rw [if_pos c13] at H
                    have c13b0 : decide (((rd_T35 l0 x14_1).f0) < (x5_1.length : Int)) = true := decide_eq_true c13
                    clear c13
                    replace H := Option.bind_eq_some_iff.mp H
                    obtain ⟨t197, A140, H⟩ := H
                    replace H : (if 0 ≤ ((rd_T35 l0 x14_1).f0) then (darninglaw14_Words.l0 k1 (x5_1.set (((rd_T35 l0 x14_1).f0) : Int).toNat t197) l0 (l0.length : Int) (wrap64 (x14_1 + 1))) else (none)) = some r := H
                    have A14 := Aside0.mk A140
                    clear A140
                    by_cases c15 : 0 ≤ ((rd_T35 l0 x14_1).f0)
                    · rw [if_pos c15] at H
                      have c15b0 : decide (0 ≤ ((rd_T35 l0 x14_1).f0)) = true := decide_eq_true c15
                      clear c15
                      obtain ⟨y198, hy198⟩ : ∃ y_ : List Int, y_ = (x5_1.set (((rd_T35 l0 x14_1).f0) : Int).toNat t197) := ⟨_, rfl⟩
                      replace H : (darninglaw14_Words.l0 k1 y198 l0 (l0.length : Int) (wrap64 (x14_1 + 1))) = some r := by first | (rw [hy198]; with_reducible exact H) | (have H2_ := (Option.bind_some _ _).symm.trans H; rw [hy198]; with_reducible exact H2_) | (have H2_ := (Option.bind_some _ _).symm.trans H; with_reducible exact H2_) | with_reducible exact H | (rw [hy198]; exact H) | exact H
                      have Ny198 := Aside0.mk hy198
                      clear hy198
                      as_aux_lemma =>
                        have H' := Aside0.mk H
                        clear H
                        have p195 : 0 ≤ (x14_1 : Int) := of_decide_eq_true (by first | (with_reducible assumption) | assumption)
                        have q195 : x14_1 < (l0.length : Int) := of_decide_eq_true (by first | (with_reducible assumption) | assumption)
                        obtain ⟨ad195, e195, hx195_0, hx195_1, hx195_2⟩ := at_T35 HR0.out x14_1 p195 q195
                        cases e195
                        replace hx195_0 := (HB.out.cell (World.block_lt_of_cell? w _ hx195_0)).trans hx195_0
                        replace hx195_1 := (HB.out.cell (World.block_lt_of_cell? w _ hx195_1)).trans hx195_1
                        replace hx195_2 := (HB.out.cell (World.block_lt_of_cell? w _ hx195_2)).trans hx195_2
                        replace p195 := eq_true p195
                        replace q195 := eq_true q195
                        try go_wp2_with (first | ((with_reducible refine gate_dst (N := 7) rfl ?_); (try (refine gate_guard (by rfl) ?_; dsimp only)); refine box_event ?hg (N := 7) ?hd (cs := #[.int .i64 0, .int .i64 0, .bool false]) (t := 35) ?hr ?_; (case hd => rfl); (case hg => rfl); (case hr => first | (go_simp; done) | (go_simp; rfl)); intro gb196 hg w17 hbox hb; have n0_ := Aside0.mk (Kd.R_below (by (with_reducible repeat (first | apply Kd.R_alloc | apply Kd.R_drewN | apply Kd.R_drew)); exact HO_5.out) hb); have n1_ := Aside0.mk (below_step (by repeat (first | (with_reducible first | exact HB.out | apply below_alloc | apply pw_below_drewN | apply below_drew1) | exact HB.out)) hb); have n2_ := Aside0.mk (hbox); have n3_ := Aside0.mk ((by rw [hg]; exact (below_size (by repeat (first | (with_reducible first | exact HB.out | apply below_alloc | apply pw_below_drewN | apply below_drew1) | exact HB.out))) : w.heap.size ≤ gb196)); have n4_ := Aside0.mk ((by rw [hg]; exact (below_size (by repeat (first | (with_reducible first | exact HB.out | apply below_alloc | apply pw_below_drewN | apply below_drew1) | exact HB.out))) : w.heap.size ≤ gb196)); clear HO_5; clear HB; have HO_5 := n0_; have HB := n1_; have BK196 := n2_; have GW196 := n3_; have GE196 := n4_; clear n0_ n1_ n2_ n3_ n4_; clear hb hbox hg; have hcz18_0 : w17.cell? ⟨gb196, 0, none⟩ = some (.int .i64 0) := (blk_cell BK196.out 0).trans rfl; have hcz18_1 : w17.cell? ⟨gb196, 1, none⟩ = some (.int .i64 0) := (blk_cell BK196.out 1).trans rfl; have hcz18_2 : w17.cell? ⟨gb196, 2, none⟩ = some (.bool false) := (blk_cell BK196.out 2).trans rfl; have hfz18_0 := blk_frozen BK196.out 0; have hfz18_1 := blk_frozen BK196.out 1; have hfz18_2 := blk_frozen BK196.out 2; obtain ⟨Ao19, co19, eo19⟩ := Kd.R_slice HO_5.out; subst eo19))
                        have n0_ : Aside0 (Kd.R (Kd.int .u64) 28 (((w17.setCell ⟨gb196, 0, none⟩ (.int .i64 ((rd_T35 l0 x14_1).f0))).setCell ⟨gb196, 1, none⟩ (.int .i64 ((rd_T35 l0 x14_1).f1))).setCell ⟨gb196, 2, none⟩ (.bool ((rd_T35 l0 x14_1).f2))) w.heap.size (fun _ => True) (.slice Ao19 x5_1.length co19) x5_1) := ⟨by (with_reducible repeat (first | apply Kd.R_alloc | apply Kd.R_drewN | apply Kd.R_drew)); exact Kd.R_mono (Kd.R_far (p := ⟨gb196, 2, none⟩) (Kd.R_far (p := ⟨gb196, 1, none⟩) (Kd.R_far (p := ⟨gb196, 0, none⟩) (Kd.R_types HO_5.out BK196.out (by decide)) (fun _ hk => hk.2) (.int .i64 ((rd_T35 l0 x14_1).f0))) (fun _ hk => hk.2) (.int .i64 ((rd_T35 l0 x14_1).f1))) (fun _ hk => hk.2) (.bool ((rd_T35 l0 x14_1).f2))) (fun _ hk => trivial)⟩
                        have n1_ : Aside0 ((((w17.setCell ⟨gb196, 0, none⟩ (.int .i64 ((rd_T35 l0 x14_1).f0))).setCell ⟨gb196, 1, none⟩ (.int .i64 ((rd_T35 l0 x14_1).f1))).setCell ⟨gb196, 2, none⟩ (.bool ((rd_T35 l0 x14_1).f2))).heap[gb196]? = some (.cells #[.int .i64 ((rd_T35 l0 x14_1).f0), .int .i64 ((rd_T35 l0 x14_1).f1), .bool ((rd_T35 l0 x14_1).f2)] 35 (0, 0))) := ⟨by (with_reducible repeat (first | refine blk_drewN ?_ _ | refine blk_drew ?_ | refine blk_alloc ?_ _)); refine blk_put (cs := #[.int .i64 ((rd_T35 l0 x14_1).f0), .int .i64 ((rd_T35 l0 x14_1).f1), .bool false]) ?_ 2 _ rfl; (with_reducible repeat (first | refine blk_drewN ?_ _ | refine blk_drew ?_ | refine blk_alloc ?_ _)); refine blk_put (cs := #[.int .i64 ((rd_T35 l0 x14_1).f0), .int .i64 0, .bool false]) ?_ 1 _ rfl; (with_reducible repeat (first | refine blk_drewN ?_ _ | refine blk_drew ?_ | refine blk_alloc ?_ _)); refine blk_put (cs := #[.int .i64 0, .int .i64 0, .bool false]) ?_ 0 _ rfl; (with_reducible repeat (first | refine blk_drewN ?_ _ | refine blk_drew ?_ | refine blk_alloc ?_ _)); exact BK196.out⟩
                        have n2_ : Aside0 (Below w.heap.size w (((w17.setCell ⟨gb196, 0, none⟩ (.int .i64 ((rd_T35 l0 x14_1).f0))).setCell ⟨gb196, 1, none⟩ (.int .i64 ((rd_T35 l0 x14_1).f1))).setCell ⟨gb196, 2, none⟩ (.bool ((rd_T35 l0 x14_1).f2)))) := ⟨by repeat (first | (with_reducible first | exact HB.out | apply below_alloc | apply pw_below_drewN | apply below_drew1 | refine below_set ?_ GE196.out) | exact HB.out)⟩
                        (try clear HO_5)
                        (try clear BK196)
                        (try clear HB)
                        generalize (((w17.setCell ⟨gb196, 0, none⟩ (.int .i64 ((rd_T35 l0 x14_1).f0))).setCell ⟨gb196, 1, none⟩ (.int .i64 ((rd_T35 l0 x14_1).f1))).setCell ⟨gb196, 2, none⟩ (.bool ((rd_T35 l0 x14_1).f2))) = w20 at n0_ n1_ n2_ ⊢
                        have HO_5 := n0_
                        have BK196 := n1_
                        have HB := n2_
                        clear n0_ n1_ n2_
                        have n0_ := Aside0.mk (Kd.R_drew HO_5.out)
                        have n1_ := Aside0.mk (blk_drew BK196.out)
                        have n2_ := Aside0.mk (below_drew1 HB.out)
                        clear HO_5
                        clear BK196
                        clear HB
                        have HO_5 := n0_
                        have BK196 := n1_
                        have HB := n2_
                        clear n0_ n1_ n2_
                        refine start_ (n := 10) (S := fun w' => w'.cell? ⟨gb196, 0, none⟩ = some (.int .i64 ((rd_T35 l0 x14_1).f0)) ∧ w'.cell? ⟨gb196, 1, none⟩ = some (.int .i64 ((rd_T35 l0 x14_1).f1)) ∧ w'.cell? ⟨gb196, 2, none⟩ = some (.bool ((rd_T35 l0 x14_1).f2))) (ds := [9]) #[false, false, false, false, false, false, false, false, false, false] (by kernel_rfl) rfl rfl ⟨(blk_cell BK196.out 0).trans rfl, (blk_cell BK196.out 1).trans rfl, (blk_cell BK196.out 2).trans rfl⟩ (fun hHeld => ?_); refine with_tabW darninglaw14_Words.tab6 darninglaw14_Words.bits6 (fun HT_ HW_ => ?_)
                        generalize w20.drew = w21 at HO_5 BK196 HB hHeld ⊢
                        refine pure_ (i := 0) (N := some 28) (v := ?_) (a' := ?_) #[true, false, false, false, false, false, false, false, false, false] rfl rfl (any_of HT_.out (by kernel_rfl)) (fun _ _ _ h => h) (Or.inl ⟨by rfl, ?_⟩) ?_ ?_
                        rotate_left
                        · intro w'
                          go_simp
                          with_reducible rfl
                        rotate_left
                        · simp only [Act.put, List.setIfInBounds_toArray, List.set_cons_zero, List.set_cons_succ, i64_w, i32_w]
                          rfl
                        refine pure_ (i := 1) (N := some 29) (v := ?_) (a' := ?_) #[true, true, false, false, false, false, false, false, false, false] rfl rfl (any_of HT_.out (by kernel_rfl)) (fun _ _ _ h => h) (Or.inl ⟨by rfl, ?_⟩) ?_ ?_
                        rotate_left
                        · intro w'
                          go_simp
                          with_reducible rfl
                        rotate_left
                        · simp only [Act.put, List.setIfInBounds_toArray, List.set_cons_zero, List.set_cons_succ, i64_w, i32_w]
                          rfl
                        refine pure_ (i := 3) (N := some 31) (v := ?_) (a' := ?_) #[true, true, false, true, false, false, false, false, false, false] rfl rfl (any_of HT_.out (by kernel_rfl)) (fun _ _ _ h => h) (Or.inl ⟨by rfl, ?_⟩) ?_ ?_
                        rotate_left
                        · intro w'
                          go_simp
                          with_reducible rfl
                        rotate_left
                        · simp only [Act.put, List.setIfInBounds_toArray, List.set_cons_zero, List.set_cons_succ, i64_w, i32_w]
                          rfl
                        refine pure_ (i := 5) (N := some 33) (v := ?_) (a' := ?_) #[true, true, false, true, false, true, false, false, false, false] rfl rfl (any_of HT_.out (by kernel_rfl)) (fun _ _ _ h => h) (Or.inl ⟨by rfl, ?_⟩) ?_ ?_
                        rotate_left
                        · intro w'
                          go_simp
                          with_reducible rfl
                        rotate_left
                        · simp only [Act.put, List.setIfInBounds_toArray, List.set_cons_zero, List.set_cons_succ, i64_w, i32_w]
                          rfl
                        refine take_ (i := 2) (N := some 30) (v := ?_) (a' := ?_) #[true, true, true, true, false, true, false, false, false, false] rfl rfl (take_ofW HT_.out HW_.out (by kernel_rfl)) (fun _ _ _ h => h) (Or.inl ⟨by rfl, ?_⟩) hHeld ?_ ?_
                        rotate_left
                        · rintro w' ⟨s0, s1, s2⟩
                          go_simp
                          with_reducible rfl
                        rotate_left
                        · simp only [Act.put, List.setIfInBounds_toArray, List.set_cons_zero, List.set_cons_succ, i64_w, i32_w]
                          rfl
                        refine take_ (i := 4) (N := some 32) (v := ?_) (a' := ?_) #[true, true, true, true, true, true, false, false, false, false] rfl rfl (take_ofW HT_.out HW_.out (by kernel_rfl)) (fun _ _ _ h => h) (Or.inl ⟨by rfl, ?_⟩) hHeld ?_ ?_
                        rotate_left
                        · rintro w' ⟨s0, s1, s2⟩
                          go_simp
                          with_reducible rfl
                        rotate_left
                        · simp only [Act.put, List.setIfInBounds_toArray, List.set_cons_zero, List.set_cons_succ, i64_w, i32_w]
                          rfl
                        refine take_ (i := 6) (N := some 34) (v := ?_) (a' := ?_) #[true, true, true, true, true, true, true, false, false, false] rfl rfl (take_ofW HT_.out HW_.out (by kernel_rfl)) (fun _ _ _ h => h) (Or.inl ⟨by rfl, ?_⟩) hHeld ?_ ?_
                        rotate_left
                        · rintro w' ⟨s0, s1, s2⟩
                          go_simp
                          with_reducible rfl
                        rotate_left
                        · simp only [Act.put, List.setIfInBounds_toArray, List.set_cons_zero, List.set_cons_succ, i64_w, i32_w]
                          rfl
                        refine one_ (i := 7) (N := some 35) #[true, true, true, true, true, true, true, true, false, false] rfl rfl (one_of HT_.out (by kernel_rfl)) (by decide) (fun K hK => ?_)
                        refine goes_ Try.func20 (by kernel_rfl) rfl #[.int .i64 ((rd_T35 l0 x14_1).f1), .bool ((rd_T35 l0 x14_1).f2)] (by rfl) rfl rfl (by (try simp only [List.map_toArray, List.map_cons, List.map_nil]); first | done | rfl | (simp only [List.length_drop, List.length_take]; rfl)) ?_
                        with_reducible refine (darningref4_Word.calls ((rd_T35 l0 x14_1).f1) ((rd_T35 l0 x14_1).f2) t197 _ A14.out).mono ?_
                        rintro e w' ⟨rfl, ⟨nd, rfl⟩⟩
                        refine ⟨_, rfl, ?_⟩
                        have p16 : 0 ≤ (((rd_T35 l0 x14_1).f0) : Int) := of_decide_eq_true (by first | (with_reducible assumption) | assumption)
                        have q16 : (((rd_T35 l0 x14_1).f0) : Int) < ((x5_1.length : Int) : Int) := of_decide_eq_true (by first | (with_reducible assumption) | assumption)
                        obtain ⟨go16, co16, eo16, gb16, gl16, cl16, HG16⟩ := Kd.R_form HO_5.out (by omega)
                        (first | cases eo16 | (injection eo16 with ea_ en_ ec_; (first | subst ea_ | (injection ea_ with ea_; subst ea_)); subst ec_; clear en_))
                        have GB16 := Aside0.mk gb16
                        have GG16 := Aside0.mk HG16
                        clear gb16 gl16 HG16
                        obtain ⟨hx16_0, hf16_0⟩ := Kd.R_celln 0 HO_5.out (((rd_T35 l0 x14_1).f0) : Int) p16 q16
                        replace p16 := eq_true p16
                        replace q16 := eq_true q16
                        have HP22 := Kd.R_putn HO_5.out (((rd_T35 l0 x14_1).f0) : Int) t197
                        rw [← Ny198.out] at HP22
                        have HQ22 := Aside0.mk HP22
                        clear HP22
                        refine hK.out _ _ ⟨(blk_cell BK196.out 0).trans rfl, (blk_cell BK196.out 1).trans rfl, (blk_cell BK196.out 2).trans rfl⟩ (fun hHeld => ?_)
                        clear hK K
                        refine norm_ (a' := ?_) ?_ ?_
                        rotate_left
                        · show Act.put _ (some 35) _ = _
                          simp only [Act.put, List.setIfInBounds_toArray, List.set_cons_zero, List.set_cons_succ, i64_w, i32_w]
                          rfl
                        refine pure_ (i := 8) (N := some 36) (v := ?_) (a' := ?_) #[true, true, true, true, true, true, true, true, true, false] rfl rfl (any_of HT_.out (by kernel_rfl)) (fun _ _ _ h => h) (Or.inl ⟨by rfl, ?_⟩) ?_ ?_
                        rotate_left
                        · intro w'
                          go_simp
                          with_reducible rfl
                        rotate_left
                        · simp only [Act.put, List.setIfInBounds_toArray, List.set_cons_zero, List.set_cons_succ, i64_w, i32_w]
                          rfl
                        refine last_ (i := 9) (N := none) #[true, true, true, true, true, true, true, true, true, true] rfl rfl (one_of HT_.out (by kernel_rfl)) (by decide) (fun K hK => ?_)
                        refine skip_ (w1 := ?_) (by rfl) rfl ?_ ?_
                        rotate_left
                        · go_simp
                          rfl
                        refine hK.out _ _ ?_
                        clear hK K
                        refine done_ (done_of HT_.out (by kernel_rfl)) ?_
                        try go_wp2
                        go_roundg k1
                        case measure => have := HK1.out; omega
                        case rel => exact ⟨(y198), (wrap64 (x14_1 + 1)), (by first | rfl | (simp; done) | (simp [*]; done)), (by first | exact H' | ((try rw [hji3]); (try rw [hji4]); exact H')), ⟨by have := HK1.out; omega⟩, ⟨by (with_reducible repeat (first | apply Kd.R_alloc | apply Kd.R_drewN | apply Kd.R_drew)); exact HQ22.out⟩, ⟨by repeat (first | (with_reducible first | exact HB.out | apply below_alloc | apply pw_below_drewN | apply below_drew1 | refine below_set ?_ GB16.out | refine below_set ?_ GE196.out) | exact HB.out)⟩⟩
                    · rw [if_neg c15] at H
                      exact absurd H (by simp)
                  · rw [if_neg c13] at H
                    have c13b0 : decide (((rd_T35 l0 x14_1).f0) < (x5_1.length : Int)) = false := decide_eq_false c13
                    clear c13
                    as_aux_lemma =>
                      have H' := Aside0.mk H
                      clear H
                      have p195 : 0 ≤ (x14_1 : Int) := of_decide_eq_true (by first | (with_reducible assumption) | assumption)
                      have q195 : x14_1 < (l0.length : Int) := of_decide_eq_true (by first | (with_reducible assumption) | assumption)
                      obtain ⟨ad195, e195, hx195_0, hx195_1, hx195_2⟩ := at_T35 HR0.out x14_1 p195 q195
                      cases e195
                      replace hx195_0 := (HB.out.cell (World.block_lt_of_cell? w _ hx195_0)).trans hx195_0
                      replace hx195_1 := (HB.out.cell (World.block_lt_of_cell? w _ hx195_1)).trans hx195_1
                      replace hx195_2 := (HB.out.cell (World.block_lt_of_cell? w _ hx195_2)).trans hx195_2
                      replace p195 := eq_true p195
                      replace q195 := eq_true q195
                      go_wp2_with (first | ((with_reducible refine gate_dst (N := 7) rfl ?_); (try (refine gate_guard (by rfl) ?_; dsimp only)); refine box_event ?hg (N := 7) ?hd (cs := #[.int .i64 0, .int .i64 0, .bool false]) (t := 35) ?hr ?_; (case hd => rfl); (case hg => rfl); (case hr => first | (go_simp; done) | (go_simp; rfl)); intro gb196 hg w23 hbox hb; have n0_ := Aside0.mk (Kd.R_below (by (with_reducible repeat (first | apply Kd.R_alloc | apply Kd.R_drewN | apply Kd.R_drew)); exact HO_5.out) hb); have n1_ := Aside0.mk (below_step (by repeat (first | (with_reducible first | exact HB.out | apply below_alloc | apply pw_below_drewN | apply below_drew1) | exact HB.out)) hb); have n2_ := Aside0.mk (hbox); have n3_ := Aside0.mk ((by rw [hg]; exact (below_size (by repeat (first | (with_reducible first | exact HB.out | apply below_alloc | apply pw_below_drewN | apply below_drew1) | exact HB.out))) : w.heap.size ≤ gb196)); have n4_ := Aside0.mk ((by rw [hg]; exact (below_size (by repeat (first | (with_reducible first | exact HB.out | apply below_alloc | apply pw_below_drewN | apply below_drew1) | exact HB.out))) : w.heap.size ≤ gb196)); clear HO_5; clear HB; have HO_5 := n0_; have HB := n1_; have BK196 := n2_; have GW196 := n3_; have GE196 := n4_; clear n0_ n1_ n2_ n3_ n4_; clear hb hbox hg; have hcz24_0 : w23.cell? ⟨gb196, 0, none⟩ = some (.int .i64 0) := (blk_cell BK196.out 0).trans rfl; have hcz24_1 : w23.cell? ⟨gb196, 1, none⟩ = some (.int .i64 0) := (blk_cell BK196.out 1).trans rfl; have hcz24_2 : w23.cell? ⟨gb196, 2, none⟩ = some (.bool false) := (blk_cell BK196.out 2).trans rfl; have hfz24_0 := blk_frozen BK196.out 0; have hfz24_1 := blk_frozen BK196.out 1; have hfz24_2 := blk_frozen BK196.out 2; obtain ⟨Ao25, co25, eo25⟩ := Kd.R_slice HO_5.out; subst eo25))
                      go_roundg k1
                      case measure => have := HK1.out; omega
                      case rel => exact ⟨(x5_1), (wrap64 (x14_1 + 1)), (by first | rfl | (simp; done) | (simp [*]; done)), (by first | exact H' | ((try rw [hji3]); (try rw [hji4]); exact H')), ⟨by have := HK1.out; omega⟩, ⟨by (with_reducible repeat (first | apply Kd.R_alloc | apply Kd.R_drewN | apply Kd.R_drew)); exact Kd.R_mono (Kd.R_far (p := ⟨gb196, 2, none⟩) (Kd.R_far (p := ⟨gb196, 1, none⟩) (Kd.R_far (p := ⟨gb196, 0, none⟩) (Kd.R_types HO_5.out BK196.out (by decide)) (fun _ hk => hk.2) (.int .i64 ((rd_T35 l0 x14_1).f0))) (fun _ hk => hk.2) (.int .i64 ((rd_T35 l0 x14_1).f1))) (fun _ hk => hk.2) (.bool ((rd_T35 l0 x14_1).f2))) (fun _ hk => trivial)⟩, ⟨by repeat (first | (with_reducible first | exact HB.out | apply below_alloc | apply pw_below_drewN | apply below_drew1 | refine below_set ?_ GE196.out) | exact HB.out)⟩⟩
                · rw [if_neg c12] at H
                  have c12b0 : decide (0 ≤ ((rd_T35 l0 x14_1).f0)) = false := decide_eq_false c12
                  clear c12
                  as_aux_lemma =>
                    have H' := Aside0.mk H
                    clear H
                    have p195 : 0 ≤ (x14_1 : Int) := of_decide_eq_true (by first | (with_reducible assumption) | assumption)
                    have q195 : x14_1 < (l0.length : Int) := of_decide_eq_true (by first | (with_reducible assumption) | assumption)
                    obtain ⟨ad195, e195, hx195_0, hx195_1, hx195_2⟩ := at_T35 HR0.out x14_1 p195 q195
                    cases e195
                    replace hx195_0 := (HB.out.cell (World.block_lt_of_cell? w _ hx195_0)).trans hx195_0
                    replace hx195_1 := (HB.out.cell (World.block_lt_of_cell? w _ hx195_1)).trans hx195_1
                    replace hx195_2 := (HB.out.cell (World.block_lt_of_cell? w _ hx195_2)).trans hx195_2
                    replace p195 := eq_true p195
                    replace q195 := eq_true q195
                    go_wp2_with (first | ((with_reducible refine gate_dst (N := 7) rfl ?_); (try (refine gate_guard (by rfl) ?_; dsimp only)); refine box_event ?hg (N := 7) ?hd (cs := #[.int .i64 0, .int .i64 0, .bool false]) (t := 35) ?hr ?_; (case hd => rfl); (case hg => rfl); (case hr => first | (go_simp; done) | (go_simp; rfl)); intro gb196 hg w26 hbox hb; have n0_ := Aside0.mk (Kd.R_below (by (with_reducible repeat (first | apply Kd.R_alloc | apply Kd.R_drewN | apply Kd.R_drew)); exact HO_5.out) hb); have n1_ := Aside0.mk (below_step (by repeat (first | (with_reducible first | exact HB.out | apply below_alloc | apply pw_below_drewN | apply below_drew1) | exact HB.out)) hb); have n2_ := Aside0.mk (hbox); have n3_ := Aside0.mk ((by rw [hg]; exact (below_size (by repeat (first | (with_reducible first | exact HB.out | apply below_alloc | apply pw_below_drewN | apply below_drew1) | exact HB.out))) : w.heap.size ≤ gb196)); have n4_ := Aside0.mk ((by rw [hg]; exact (below_size (by repeat (first | (with_reducible first | exact HB.out | apply below_alloc | apply pw_below_drewN | apply below_drew1) | exact HB.out))) : w.heap.size ≤ gb196)); clear HO_5; clear HB; have HO_5 := n0_; have HB := n1_; have BK196 := n2_; have GW196 := n3_; have GE196 := n4_; clear n0_ n1_ n2_ n3_ n4_; clear hb hbox hg; have hcz27_0 : w26.cell? ⟨gb196, 0, none⟩ = some (.int .i64 0) := (blk_cell BK196.out 0).trans rfl; have hcz27_1 : w26.cell? ⟨gb196, 1, none⟩ = some (.int .i64 0) := (blk_cell BK196.out 1).trans rfl; have hcz27_2 : w26.cell? ⟨gb196, 2, none⟩ = some (.bool false) := (blk_cell BK196.out 2).trans rfl; have hfz27_0 := blk_frozen BK196.out 0; have hfz27_1 := blk_frozen BK196.out 1; have hfz27_2 := blk_frozen BK196.out 2))
                    go_roundg k1
                    case measure => have := HK1.out; omega
                    case rel => exact ⟨(x5_1), (wrap64 (x14_1 + 1)), (by first | rfl | (simp; done) | (simp [*]; done)), (by first | exact H' | ((try rw [hji3]); (try rw [hji4]); exact H')), ⟨by have := HK1.out; omega⟩, ⟨by (with_reducible repeat (first | apply Kd.R_alloc | apply Kd.R_drewN | apply Kd.R_drew)); exact Kd.R_mono (Kd.R_far (p := ⟨gb196, 2, none⟩) (Kd.R_far (p := ⟨gb196, 1, none⟩) (Kd.R_far (p := ⟨gb196, 0, none⟩) (Kd.R_types HO_5.out BK196.out (by decide)) (fun _ hk => hk.2) (.int .i64 ((rd_T35 l0 x14_1).f0))) (fun _ hk => hk.2) (.int .i64 ((rd_T35 l0 x14_1).f1))) (fun _ hk => hk.2) (.bool ((rd_T35 l0 x14_1).f2))) (fun _ hk => trivial)⟩, ⟨by repeat (first | (with_reducible first | exact HB.out | apply below_alloc | apply pw_below_drewN | apply below_drew1 | refine below_set ?_ GE196.out) | exact HB.out)⟩⟩
              · rw [if_neg c11] at H
                exact absurd H (by simp)
            · rw [if_neg c10] at H
              exact absurd H (by simp)
          · rw [if_neg c9] at H
            have c9b0 : decide (x14_1 < (l0.length : Int)) = false := decide_eq_false c9
            clear c9
            as_aux_lemma =>
              obtain rfl := Option.some.inj H
              go_wp2
              go_ret
              exact ⟨_, by first | rfl | (simp [errW_none, errW_some] <;> rfl) | (simp only [← hji3, ← hji4]; first | rfl | (simp [errW_none, errW_some] <;> rfl)) | (simp [*, errW_none, errW_some] <;> rfl), by (with_reducible repeat (first | apply Kd.R_alloc | apply Kd.R_drewN | apply Kd.R_drew)); exact HO_5.out, by repeat (first | (with_reducible first | exact HB.out | apply below_alloc | apply pw_below_drewN | apply below_drew1) | exact HB.out)⟩
    · rw [if_neg c6] at H
      exact absurd H (by simp)
  · rw [if_neg c5] at H
    exact absurd H (by simp)

/-! ### darningref4_Apply: function 34 -/
def darningref4_Apply.l0 : Nat → List Int → List (S30) → Int → Int → Option (List Int)
  | 0, _, _, _, _ => none
  | k + 1, x5, x10, x11, x12 => if x12 < x11 then (if 0 ≤ x12 then (if x12 < (x10.length : Int) then (if ((rd_T30 x10 x12).f0) ≥ 0 then (if ((rd_T30 x10 x12).f0) < (x5.length : Int) then (if 0 ≤ ((rd_T30 x10 x12).f0) then (darningref4_Apply.l0 k (x5.set (((rd_T30 x10 x12).f0) : Int).toNat ((rd_T30 x10 x12).f1)) x10 x11 (wrap64 (x12 + 1))) else (none)) else (darningref4_Apply.l0 k x5 x10 x11 (wrap64 (x12 + 1)))) else (darningref4_Apply.l0 k x5 x10 x11 (wrap64 (x12 + 1)))) else (none)) else (none)) else (some x5)
def darningref4_Apply.f (k : Nat) (l0 : List Int) (l1 : List (S30)) : Option (List Int) := if ([] : List Int).length + l0.length < 17592186044416 then (darningref4_Apply.l0 k (([] : List Int) ++ l0) l1 (l1.length : Int) 0) else (none)
theorem darningref4_Apply.mono_l : ∀ k, (∀ y0 y1 y2 y3, LeO (darningref4_Apply.l0 k y0 y1 y2 y3) (darningref4_Apply.l0 (k + 1) y0 y1 y2 y3))
  | 0 => fun _ _ _ _ r h => by simp [darningref4_Apply.l0] at h
  | k + 1 => by
    have ih0 := darningref4_Apply.mono_l k
    · intro y0 y1 y2 y3
      unfold darningref4_Apply.l0
      repeat' first
      | (with_reducible exact ih0 _ _ _ _)
      | (with_reducible exact LeO.refl _)
      | (with_reducible exact LeO.none _)
      | (with_reducible refine LeO.ite ?_ ?_)
      | (with_reducible refine LeO.bind ?_ (fun _ => ?_))
      | exact ih0 _ _ _ _
      | exact LeO.none _
      | refine LeO.ite ?_ ?_
      | refine LeO.bind ?_ (fun _ => ?_)
theorem darningref4_Apply.mono : ∀ a0 a1 k, LeO (darningref4_Apply.f k a0 a1) (darningref4_Apply.f (k + 1) a0 a1) := by
  intro a0 a1 k
  have ih0 := darningref4_Apply.mono_l k
  unfold darningref4_Apply.f
  repeat' first
      | (with_reducible exact ih0 _ _ _ _)
      | (with_reducible exact LeO.refl _)
      | (with_reducible exact LeO.none _)
      | (with_reducible refine LeO.ite ?_ ?_)
      | (with_reducible refine LeO.bind ?_ (fun _ => ?_))
      | exact ih0 _ _ _ _
      | exact LeO.none _
      | refine LeO.ite ?_ ?_
      | refine LeO.bind ?_ (fun _ => ?_)
set_option maxHeartbeats 8000000 in
set_option maxRecDepth 100000 in
theorem darningref4_Apply.calls (k : Nat) (A0 : Option Addr) (c0 : Nat) (l0 : List Int) (A1 : Option Addr) (c1 : Nat) (l1 : List (S30)) (r : List Int) (w : World) (hr0 : Kd.C (Kd.int .u64) w A0 l0.length l0) (hc0 : l0.length ≤ c0) (hr1 : Kd.C k30 w A1 l1.length l1) (hc1 : l1.length ≤ c1) (h : darningref4_Apply.f k l0 l1 = some r) :
    Calls Try.prog 34 #[.slice A0 l0.length c0, .slice A1 l1.length c1] w fun e w' => ∃ v0_ : Value, e = .returned (v0_) ∧ Kd.R (Kd.int .u64) 28 w' w.heap.size (fun _ => True) v0_ r ∧ Below w.heap.size w w' := by
  have hu30 := Try.underlying30
  have HR0 := Aside0.mk hr0
  have HC0 := Aside0.mk hc0
  clear hr0 hc0
  have HR1 := Aside0.mk hr1
  have HC1 := Aside0.mk hc1
  clear hr1 hc1
  have HB := Aside0.mk (Below.refl w.heap.size w)
  have H : (if ([] : List Int).length + l0.length < 17592186044416 then (darningref4_Apply.l0 k (([] : List Int) ++ l0) l1 (l1.length : Int) 0) else (none)) = some r := h
  clear h
  by_cases c3 : ([] : List Int).length + l0.length < 17592186044416
  · rw [if_pos c3] at H
    have LMc3 := Aside0.mk c3
    clear c3
    obtain ⟨y199, hy199⟩ : ∃ y_ : List Int, y_ = (([] : List Int) ++ l0) := ⟨_, rfl⟩
    replace H : (darningref4_Apply.l0 k y199 l1 (l1.length : Int) 0) = some r := by first | (rw [hy199]; with_reducible exact H) | (have H2_ := (Option.bind_some _ _).symm.trans H; rw [hy199]; with_reducible exact H2_) | (have H2_ := (Option.bind_some _ _).symm.trans H; with_reducible exact H2_) | with_reducible exact H | (rw [hy199]; exact H) | exact H
    have Ny199 := Aside0.mk hy199
    clear hy199
    have H' := Aside0.mk H
    clear H
    go_enter Try.func34, Try.ntmps34
    go_wp2_with (first | ((with_reducible refine gate_builtin (b := .append) (xs := #[.const (.slice none 0 0), .tmp 8]) rfl ?_); (try (refine gate_guard (by rfl) ?_; dsimp only)); at_builtin; refine Kd.R_append_rows (Kd.int .u64) (w0 := w) w.heap.size rfl (.const (.slice none 0 0)) (.tmp 8) 50 28 (.int .u64 0) 8 rfl Try.underlying50 info28 rfl (by decide) (by omega) (.slice none 0 0) ([] : List Int) l0 _ _ _ (fun _ => True) (fun _ => False) rfl rfl ?aO ?aR (fun _ _ h => h) (fun _ h => h.elim) ?aF ?aB ?aS ?aL ?_; (case aR => repeat (first | exact HR0.out | (with_reducible refine Kd.C_alloc ?_ _) | (with_reducible refine Kd.C_drewN ?_ _) | (with_reducible refine Kd.C_drew ?_))); (case aB => exact (by repeat (first | (with_reducible first | exact HB.out | apply below_alloc | apply pw_below_drewN | apply below_drew1) | exact HB.out))); (case aF => exact (fun _ _ => trivial)); (case aO => exact ((Kd.R_nil _ _ _ _ (fun _ => True)))); (case aS => exact (below_size (by repeat (first | (with_reducible first | exact HB.out | apply below_alloc | apply pw_below_drewN | apply below_drew1) | exact HB.out)))); (case aL => have := LMc3.out; omega); intro v200 w4 ho hb hg hat; rw [← Ny199.out] at ho; have n0_ := Aside0.mk (hb); have n1_ := Aside0.mk (ho); clear HB; have HB := n0_; have HO201 := n1_; clear n0_ n1_; clear ho hb hg hat))
    go_loopg [12] k (fun kq v12 w' => ∃ (x5_1 : List Int) (x12_1 : Int), v12 = .int .i64 x12_1 ∧ Aside0 (darningref4_Apply.l0 kq x5_1 l1 (l1.length : Int) x12_1 = some r) ∧ Aside0 (kq ≤ k) ∧ Aside0 (Kd.R (Kd.int .u64) 28 w' w.heap.size (fun _ => True) v200 x5_1) ∧ Aside0 (Below w.heap.size w w'))
    case atStart => exact ⟨(y199), (0), (by first | rfl | (simp; done) | (simp [*]; done)), H', ⟨Nat.le_refl _⟩, ⟨by (with_reducible repeat (first | apply Kd.R_alloc | apply Kd.R_drewN | apply Kd.R_drew)); exact HO201.out⟩, ⟨by repeat (first | (with_reducible first | exact HB.out | apply below_alloc | apply pw_below_drewN | apply below_drew1) | exact HB.out)⟩⟩
    case round =>
      clear H'
      try clear c1
      try clear p2
      try clear c3
      obtain ⟨x5_1, x12_1, rfl, HA, HK1, HO_5, HB⟩ := hrel
      cases gk with
      | zero => exact absurd HA.out (by simp [darningref4_Apply.l0])
      | succ k1 =>
        have H := HA.out
        clear HA
        simp only [darningref4_Apply.l0] at H
        by_cases c5 : x12_1 < (l1.length : Int)
        · rw [if_pos c5] at H
          have c5b0 : decide (x12_1 < (l1.length : Int)) = true := decide_eq_true c5
          clear c5
          by_cases c6 : 0 ≤ x12_1
          · rw [if_pos c6] at H
            have c6b0 : decide (0 ≤ x12_1) = true := decide_eq_true c6
            clear c6
            by_cases c7 : x12_1 < (l1.length : Int)
            · rw [if_pos c7] at H
              have c7b0 : decide (x12_1 < (l1.length : Int)) = true := decide_eq_true c7
              clear c7
              by_cases c8 : ((rd_T30 l1 x12_1).f0) ≥ 0
              · rw [if_pos c8] at H
                have c8b0 : decide (0 ≤ ((rd_T30 l1 x12_1).f0)) = true := decide_eq_true c8
                clear c8
                by_cases c9 : ((rd_T30 l1 x12_1).f0) < (x5_1.length : Int)
                · rw [if_pos c9] at H
                  have c9b0 : decide (((rd_T30 l1 x12_1).f0) < (x5_1.length : Int)) = true := decide_eq_true c9
                  clear c9
                  by_cases c10 : 0 ≤ ((rd_T30 l1 x12_1).f0)
                  · rw [if_pos c10] at H
                    have c10b0 : decide (0 ≤ ((rd_T30 l1 x12_1).f0)) = true := decide_eq_true c10
                    clear c10
                    obtain ⟨y204, hy204⟩ : ∃ y_ : List Int, y_ = (x5_1.set (((rd_T30 l1 x12_1).f0) : Int).toNat ((rd_T30 l1 x12_1).f1)) := ⟨_, rfl⟩
                    replace H : (darningref4_Apply.l0 k1 y204 l1 (l1.length : Int) (wrap64 (x12_1 + 1))) = some r := by first | (rw [hy204]; with_reducible exact H) | (have H2_ := (Option.bind_some _ _).symm.trans H; rw [hy204]; with_reducible exact H2_) | (have H2_ := (Option.bind_some _ _).symm.trans H; with_reducible exact H2_) | with_reducible exact H | (rw [hy204]; exact H) | exact H
                    have Ny204 := Aside0.mk hy204
                    clear hy204
                    as_aux_lemma =>
                      have H' := Aside0.mk H
                      clear H
                      have p202 : 0 ≤ (x12_1 : Int) := of_decide_eq_true (by first | (with_reducible assumption) | assumption)
                      have q202 : x12_1 < (l1.length : Int) := of_decide_eq_true (by first | (with_reducible assumption) | assumption)
                      obtain ⟨ad202, e202, hx202_0, hx202_1⟩ := at_T30 HR1.out x12_1 p202 q202
                      cases e202
                      replace hx202_0 := (HB.out.cell (World.block_lt_of_cell? w _ hx202_0)).trans hx202_0
                      replace hx202_1 := (HB.out.cell (World.block_lt_of_cell? w _ hx202_1)).trans hx202_1
                      replace p202 := eq_true p202
                      replace q202 := eq_true q202
                      go_wp2_with (first | ((with_reducible refine gate_dst (N := 7) rfl ?_); (try (refine gate_guard (by rfl) ?_; dsimp only)); refine box_event ?hg (N := 7) ?hd (cs := #[.int .i64 0, .int .u64 0]) (t := 30) ?hr ?_; (case hd => rfl); (case hg => rfl); (case hr => first | (go_simp; done) | (go_simp; rfl)); intro gb203 hg w12 hbox hb; have n0_ := Aside0.mk (Kd.R_below (by (with_reducible repeat (first | apply Kd.R_alloc | apply Kd.R_drewN | apply Kd.R_drew)); exact HO_5.out) hb); have n1_ := Aside0.mk (below_step (by repeat (first | (with_reducible first | exact HB.out | apply below_alloc | apply pw_below_drewN | apply below_drew1) | exact HB.out)) hb); have n2_ := Aside0.mk (hbox); have n3_ := Aside0.mk ((by rw [hg]; exact (below_size (by repeat (first | (with_reducible first | exact HB.out | apply below_alloc | apply pw_below_drewN | apply below_drew1) | exact HB.out))) : w.heap.size ≤ gb203)); have n4_ := Aside0.mk ((by rw [hg]; exact (below_size (by repeat (first | (with_reducible first | exact HB.out | apply below_alloc | apply pw_below_drewN | apply below_drew1) | exact HB.out))) : w.heap.size ≤ gb203)); clear HO_5; clear HB; have HO_5 := n0_; have HB := n1_; have BK203 := n2_; have GW203 := n3_; have GE203 := n4_; clear n0_ n1_ n2_ n3_ n4_; clear hb hbox hg; have hcz13_0 : w12.cell? ⟨gb203, 0, none⟩ = some (.int .i64 0) := (blk_cell BK203.out 0).trans rfl; have hcz13_1 : w12.cell? ⟨gb203, 1, none⟩ = some (.int .u64 0) := (blk_cell BK203.out 1).trans rfl; have hfz13_0 := blk_frozen BK203.out 0; have hfz13_1 := blk_frozen BK203.out 1) | ((with_reducible refine gate_store (t := 30) (p := 7) rfl ?_); refine store_event (t := 30) (p := 7) (v := ?vo_w14) (w1 := ((w12.setCell ⟨gb203, 0, none⟩ (.int .i64 ((rd_T30 l1 x12_1).f0))).setCell ⟨gb203, 1, none⟩ (.int .u64 ((rd_T30 l1 x12_1).f1)))) ?hg ?ho ?hn ?hr ?_; (case ho => rfl); (case hg => rfl); (case hn => rfl); (case hr => first | (go_simp; done) | (go_simp; rfl)); intro w14 hw; have n0_ : Aside0 (Kd.R (Kd.int .u64) 28 w14 w.heap.size (fun _ => True) v200 x5_1) := ⟨(by rw [hw]; exact (by (with_reducible repeat (first | apply Kd.R_alloc | apply Kd.R_drewN | apply Kd.R_drew)); exact Kd.R_mono (Kd.R_far (p := ⟨gb203, 1, none⟩) (Kd.R_far (p := ⟨gb203, 0, none⟩) (Kd.R_types HO_5.out BK203.out (by decide)) (fun _ hk => hk.2) (.int .i64 ((rd_T30 l1 x12_1).f0))) (fun _ hk => hk.2) (.int .u64 ((rd_T30 l1 x12_1).f1))) (fun _ hk => trivial)))⟩; have n1_ : Aside0 (w14.heap[gb203]? = some (.cells #[.int .i64 ((rd_T30 l1 x12_1).f0), .int .u64 ((rd_T30 l1 x12_1).f1)] 30 (0, 0))) := ⟨(by rw [hw]; exact (by (with_reducible repeat (first | refine blk_drewN ?_ _ | refine blk_drew ?_ | refine blk_alloc ?_ _)); refine blk_put (cs := #[.int .i64 ((rd_T30 l1 x12_1).f0), .int .u64 0]) ?_ 1 _ rfl; (with_reducible repeat (first | refine blk_drewN ?_ _ | refine blk_drew ?_ | refine blk_alloc ?_ _)); refine blk_put (cs := #[.int .i64 0, .int .u64 0]) ?_ 0 _ rfl; (with_reducible repeat (first | refine blk_drewN ?_ _ | refine blk_drew ?_ | refine blk_alloc ?_ _)); exact BK203.out))⟩; have n2_ : Aside0 (Below w.heap.size w w14) := ⟨(by rw [hw]; exact (by repeat (first | (with_reducible first | exact HB.out | apply below_alloc | apply pw_below_drewN | apply below_drew1 | refine below_set ?_ GE203.out) | exact HB.out)))⟩; clear hw; clear HO_5; clear BK203; clear HB; have HO_5 := n0_; have BK203 := n1_; have HB := n2_; clear n0_ n1_ n2_; have hcz15_0 : w14.cell? ⟨gb203, 0, none⟩ = some (.int .i64 ((rd_T30 l1 x12_1).f0)) := (blk_cell BK203.out 0).trans rfl; have hcz15_1 : w14.cell? ⟨gb203, 1, none⟩ = some (.int .u64 ((rd_T30 l1 x12_1).f1)) := (blk_cell BK203.out 1).trans rfl; have hfz15_0 := blk_frozen BK203.out 0; have hfz15_1 := blk_frozen BK203.out 1; obtain ⟨Ao16, co16, eo16⟩ := Kd.R_slice HO_5.out; subst eo16; have p11 : 0 ≤ (((rd_T30 l1 x12_1).f0) : Int) := of_decide_eq_true (by first | (with_reducible assumption) | assumption); have q11 : (((rd_T30 l1 x12_1).f0) : Int) < ((x5_1.length : Int) : Int) := of_decide_eq_true (by first | (with_reducible assumption) | assumption); obtain ⟨go11, co11, eo11, gb11, gl11, cl11, HG11⟩ := Kd.R_form HO_5.out (by omega); (first | cases eo11 | (injection eo11 with ea_ en_ ec_; (first | subst ea_ | (injection ea_ with ea_; subst ea_)); subst ec_; clear en_)); have GB11 := Aside0.mk gb11; have GG11 := Aside0.mk HG11; clear gb11 gl11 HG11; obtain ⟨hx11_0, hf11_0⟩ := Kd.R_celln 0 HO_5.out (((rd_T30 l1 x12_1).f0) : Int) p11 q11; replace p11 := eq_true p11; replace q11 := eq_true q11; obtain ⟨hy17_, hz17_⟩ := Kd.R_celln 0 HO_5.out (((rd_T30 l1 x12_1).f0) : Int) (of_decide_eq_true (by first | (with_reducible assumption) | assumption)) (of_decide_eq_true (by first | (with_reducible assumption) | assumption)); have HP17 := Kd.R_putg HO_5.out (((rd_T30 l1 x12_1).f0) : Int) ((rd_T30 l1 x12_1).f1)) | ((with_reducible refine gate_store (t := 28) (p := 31) rfl ?_); refine store_event (t := 28) (p := 31) (v := ?vo_w18) (w1 := (w14.setCell ⟨go11, (((rd_T30 l1 x12_1).f0) : Int).toNat, none⟩ (.int .u64 ((rd_T30 l1 x12_1).f1)))) ?hg ?ho ?hn ?hr ?_; (case ho => rfl); (case hg => rfl); (case hn => rfl); (case hr => first | (go_simp; done) | (go_simp; rfl)); intro w18 hw; have hg : w14.grownBy w18 (some go11) := (by rw [hw]; exact HP17.2); have hp_ : Kd.R (Kd.int .u64) 28 w18 w.heap.size (fun _ => True) (.slice (some ⟨go11, 0, none⟩) x5_1.length co16) y204 := (by rw [hw, Ny204.out]; exact HP17.1); clear HP17; have n0_ := Aside0.mk (hp_); have n1_ := Aside0.mk (blk_grown (g := gb203) (o := .cells #[.int .i64 ((rd_T30 l1 x12_1).f0), .int .u64 ((rd_T30 l1 x12_1).f1)] 30 (0, 0)) (by (with_reducible repeat (first | refine blk_drewN ?_ _ | refine blk_drew ?_ | refine blk_alloc ?_ _)); exact BK203.out) hg (Kd.R_ne HO_5.out BK203.out (by decide))); have n2_ := Aside0.mk ((by rw [hw]; exact below_set (HB.out) GB11.out : Below w.heap.size w w18)); clear HO_5; clear BK203; clear HB; have HO_5 := n0_; have BK203 := n1_; have HB := n2_; clear n0_ n1_ n2_; clear hg hw hp_))
                      go_roundg k1
                      case measure => have := HK1.out; omega
                      case rel => exact ⟨(y204), (wrap64 (x12_1 + 1)), (by first | rfl | (simp; done) | (simp [*]; done)), H', ⟨by have := HK1.out; omega⟩, ⟨by (with_reducible repeat (first | apply Kd.R_alloc | apply Kd.R_drewN | apply Kd.R_drew)); exact HO_5.out⟩, ⟨by repeat (first | (with_reducible first | exact HB.out | apply below_alloc | apply pw_below_drewN | apply below_drew1 | refine below_set ?_ GE203.out) | exact HB.out)⟩⟩
                  · rw [if_neg c10] at H
                    exact absurd H (by simp)
                · rw [if_neg c9] at H
                  have c9b0 : decide (((rd_T30 l1 x12_1).f0) < (x5_1.length : Int)) = false := decide_eq_false c9
                  clear c9
                  as_aux_lemma =>
                    have H' := Aside0.mk H
                    clear H
                    have p202 : 0 ≤ (x12_1 : Int) := of_decide_eq_true (by first | (with_reducible assumption) | assumption)
                    have q202 : x12_1 < (l1.length : Int) := of_decide_eq_true (by first | (with_reducible assumption) | assumption)
                    obtain ⟨ad202, e202, hx202_0, hx202_1⟩ := at_T30 HR1.out x12_1 p202 q202
                    cases e202
                    replace hx202_0 := (HB.out.cell (World.block_lt_of_cell? w _ hx202_0)).trans hx202_0
                    replace hx202_1 := (HB.out.cell (World.block_lt_of_cell? w _ hx202_1)).trans hx202_1
                    replace p202 := eq_true p202
                    replace q202 := eq_true q202
                    go_wp2_with (first | ((with_reducible refine gate_dst (N := 7) rfl ?_); (try (refine gate_guard (by rfl) ?_; dsimp only)); refine box_event ?hg (N := 7) ?hd (cs := #[.int .i64 0, .int .u64 0]) (t := 30) ?hr ?_; (case hd => rfl); (case hg => rfl); (case hr => first | (go_simp; done) | (go_simp; rfl)); intro gb203 hg w19 hbox hb; have n0_ := Aside0.mk (Kd.R_below (by (with_reducible repeat (first | apply Kd.R_alloc | apply Kd.R_drewN | apply Kd.R_drew)); exact HO_5.out) hb); have n1_ := Aside0.mk (below_step (by repeat (first | (with_reducible first | exact HB.out | apply below_alloc | apply pw_below_drewN | apply below_drew1) | exact HB.out)) hb); have n2_ := Aside0.mk (hbox); have n3_ := Aside0.mk ((by rw [hg]; exact (below_size (by repeat (first | (with_reducible first | exact HB.out | apply below_alloc | apply pw_below_drewN | apply below_drew1) | exact HB.out))) : w.heap.size ≤ gb203)); have n4_ := Aside0.mk ((by rw [hg]; exact (below_size (by repeat (first | (with_reducible first | exact HB.out | apply below_alloc | apply pw_below_drewN | apply below_drew1) | exact HB.out))) : w.heap.size ≤ gb203)); clear HO_5; clear HB; have HO_5 := n0_; have HB := n1_; have BK203 := n2_; have GW203 := n3_; have GE203 := n4_; clear n0_ n1_ n2_ n3_ n4_; clear hb hbox hg; have hcz20_0 : w19.cell? ⟨gb203, 0, none⟩ = some (.int .i64 0) := (blk_cell BK203.out 0).trans rfl; have hcz20_1 : w19.cell? ⟨gb203, 1, none⟩ = some (.int .u64 0) := (blk_cell BK203.out 1).trans rfl; have hfz20_0 := blk_frozen BK203.out 0; have hfz20_1 := blk_frozen BK203.out 1; obtain ⟨Ao21, co21, eo21⟩ := Kd.R_slice HO_5.out; subst eo21))
                    go_roundg k1
                    case measure => have := HK1.out; omega
                    case rel => exact ⟨(x5_1), (wrap64 (x12_1 + 1)), (by first | rfl | (simp; done) | (simp [*]; done)), H', ⟨by have := HK1.out; omega⟩, ⟨by (with_reducible repeat (first | apply Kd.R_alloc | apply Kd.R_drewN | apply Kd.R_drew)); exact Kd.R_mono (Kd.R_far (p := ⟨gb203, 1, none⟩) (Kd.R_far (p := ⟨gb203, 0, none⟩) (Kd.R_types HO_5.out BK203.out (by decide)) (fun _ hk => hk.2) (.int .i64 ((rd_T30 l1 x12_1).f0))) (fun _ hk => hk.2) (.int .u64 ((rd_T30 l1 x12_1).f1))) (fun _ hk => trivial)⟩, ⟨by repeat (first | (with_reducible first | exact HB.out | apply below_alloc | apply pw_below_drewN | apply below_drew1 | refine below_set ?_ GE203.out) | exact HB.out)⟩⟩
              · rw [if_neg c8] at H
                have c8b0 : decide (0 ≤ ((rd_T30 l1 x12_1).f0)) = false := decide_eq_false c8
                clear c8
                as_aux_lemma =>
                  have H' := Aside0.mk H
                  clear H
                  have p202 : 0 ≤ (x12_1 : Int) := of_decide_eq_true (by first | (with_reducible assumption) | assumption)
                  have q202 : x12_1 < (l1.length : Int) := of_decide_eq_true (by first | (with_reducible assumption) | assumption)
                  obtain ⟨ad202, e202, hx202_0, hx202_1⟩ := at_T30 HR1.out x12_1 p202 q202
                  cases e202
                  replace hx202_0 := (HB.out.cell (World.block_lt_of_cell? w _ hx202_0)).trans hx202_0
                  replace hx202_1 := (HB.out.cell (World.block_lt_of_cell? w _ hx202_1)).trans hx202_1
                  replace p202 := eq_true p202
                  replace q202 := eq_true q202
                  go_wp2_with (first | ((with_reducible refine gate_dst (N := 7) rfl ?_); (try (refine gate_guard (by rfl) ?_; dsimp only)); refine box_event ?hg (N := 7) ?hd (cs := #[.int .i64 0, .int .u64 0]) (t := 30) ?hr ?_; (case hd => rfl); (case hg => rfl); (case hr => first | (go_simp; done) | (go_simp; rfl)); intro gb203 hg w22 hbox hb; have n0_ := Aside0.mk (Kd.R_below (by (with_reducible repeat (first | apply Kd.R_alloc | apply Kd.R_drewN | apply Kd.R_drew)); exact HO_5.out) hb); have n1_ := Aside0.mk (below_step (by repeat (first | (with_reducible first | exact HB.out | apply below_alloc | apply pw_below_drewN | apply below_drew1) | exact HB.out)) hb); have n2_ := Aside0.mk (hbox); have n3_ := Aside0.mk ((by rw [hg]; exact (below_size (by repeat (first | (with_reducible first | exact HB.out | apply below_alloc | apply pw_below_drewN | apply below_drew1) | exact HB.out))) : w.heap.size ≤ gb203)); have n4_ := Aside0.mk ((by rw [hg]; exact (below_size (by repeat (first | (with_reducible first | exact HB.out | apply below_alloc | apply pw_below_drewN | apply below_drew1) | exact HB.out))) : w.heap.size ≤ gb203)); clear HO_5; clear HB; have HO_5 := n0_; have HB := n1_; have BK203 := n2_; have GW203 := n3_; have GE203 := n4_; clear n0_ n1_ n2_ n3_ n4_; clear hb hbox hg; have hcz23_0 : w22.cell? ⟨gb203, 0, none⟩ = some (.int .i64 0) := (blk_cell BK203.out 0).trans rfl; have hcz23_1 : w22.cell? ⟨gb203, 1, none⟩ = some (.int .u64 0) := (blk_cell BK203.out 1).trans rfl; have hfz23_0 := blk_frozen BK203.out 0; have hfz23_1 := blk_frozen BK203.out 1))
                  go_roundg k1
                  case measure => have := HK1.out; omega
                  case rel => exact ⟨(x5_1), (wrap64 (x12_1 + 1)), (by first | rfl | (simp; done) | (simp [*]; done)), H', ⟨by have := HK1.out; omega⟩, ⟨by (with_reducible repeat (first | apply Kd.R_alloc | apply Kd.R_drewN | apply Kd.R_drew)); exact Kd.R_mono (Kd.R_far (p := ⟨gb203, 1, none⟩) (Kd.R_far (p := ⟨gb203, 0, none⟩) (Kd.R_types HO_5.out BK203.out (by decide)) (fun _ hk => hk.2) (.int .i64 ((rd_T30 l1 x12_1).f0))) (fun _ hk => hk.2) (.int .u64 ((rd_T30 l1 x12_1).f1))) (fun _ hk => trivial)⟩, ⟨by repeat (first | (with_reducible first | exact HB.out | apply below_alloc | apply pw_below_drewN | apply below_drew1 | refine below_set ?_ GE203.out) | exact HB.out)⟩⟩
            · rw [if_neg c7] at H
              exact absurd H (by simp)
          · rw [if_neg c6] at H
            exact absurd H (by simp)
        · rw [if_neg c5] at H
          have c5b0 : decide (x12_1 < (l1.length : Int)) = false := decide_eq_false c5
          clear c5
          as_aux_lemma =>
            obtain rfl := Option.some.inj H
            go_wp2
            go_ret
            exact ⟨_, by first | rfl | (simp [errW_none, errW_some] <;> rfl) | (simp [*, errW_none, errW_some] <;> rfl), by (with_reducible repeat (first | apply Kd.R_alloc | apply Kd.R_drewN | apply Kd.R_drew)); exact HO_5.out, by repeat (first | (with_reducible first | exact HB.out | apply below_alloc | apply pw_below_drewN | apply below_drew1) | exact HB.out)⟩
  · rw [if_neg c3] at H
    exact absurd H (by simp)

/-! ### block_Parse: function 66 -/
def block_Parse.f (a0 : Int) : Option (Int × Bool × Bool) := if (a0 / 2) > 512 then (some (0, false, false)) else ((block_May.f (wrap64 (a0 / 2))).bind fun t205 => (if t205 = true then (some (wrap64 (a0 / 2), ((Go.bits .and .u64 a0 1) == 1), true)) else (some (0, false, false))))
set_option maxHeartbeats 8000000 in
set_option maxRecDepth 100000 in
theorem block_Parse.calls (a0 : Int) (r1 : Int) (r2 : Bool) (r3 : Bool) (w : World) (h : block_Parse.f a0 = some (r1, r2, r3)) :
    Calls Try.prog 66 #[.int .u64 a0] w fun e w' => e = .returned (.tuple #[.int .i64 r1, .bool r2, .bool r3]) ∧ Drawn0 w w' := by
  have H : (if (a0 / 2) > 512 then (some (0, false, false)) else ((block_May.f (wrap64 (a0 / 2))).bind fun t205 => (if t205 = true then (some (wrap64 (a0 / 2), ((Go.bits .and .u64 a0 1) == 1), true)) else (some (0, false, false))))) = some (r1, r2, r3) := h
  clear h
  by_cases c2 : (a0 / 2) > 512
  · rw [if_pos c2] at H
    have c2b0 : decide (512 < (a0 / 2)) = true := decide_eq_true c2
    clear c2
    as_aux_lemma =>
      simp only [Option.some.injEq, Prod.mk.injEq] at H
      obtain ⟨rfl, rfl, rfl⟩ := H
      go_enter Try.func66, Try.ntmps66
      go_wp2
      go_ret3
      exact ⟨by first | rfl | (simp; done) | (simp [*]; done), by repeat (first | exact Drawn0.refl _ | apply Drawn0.step)⟩
  · rw [if_neg c2] at H
    have c2b0 : decide (512 < (a0 / 2)) = false := decide_eq_false c2
    clear c2
    replace H := Option.bind_eq_some_iff.mp H
    obtain ⟨t205, A30, H⟩ := H
    replace H : (if t205 = true then (some (wrap64 (a0 / 2), ((Go.bits .and .u64 a0 1) == 1), true)) else (some (0, false, false))) = some (r1, r2, r3) := H
    have A3 := Aside0.mk A30
    clear A30
    by_cases c4 : t205 = true
    · subst c4
      have H1 : (some (wrap64 (a0 / 2), ((Go.bits .and .u64 a0 1) == 1), true)) = some (r1, r2, r3) := by rw [if_pos rfl] at H; exact H
      clear H
      have H := H1
      clear H1
      as_aux_lemma =>
        simp only [Option.some.injEq, Prod.mk.injEq] at H
        obtain ⟨rfl, rfl, rfl⟩ := H
        go_enter Try.func66, Try.ntmps66
        go_wp2_with (first | (go_at_call 68; (with_reducible refine (block_May.calls (wrap64 (a0 / 2)) true _ A3.out).mono ?_); rintro e w' ⟨rfl, ⟨nd, rfl⟩⟩))
        go_ret3
        exact ⟨by first | rfl | (simp; done) | (simp [*]; done), by repeat (first | exact Drawn0.refl _ | apply Drawn0.step)⟩
    · replace c4 := Bool.eq_false_iff.mpr c4
      subst c4
      have H1 : (some (0, false, false)) = some (r1, r2, r3) := by rw [if_neg (show ¬ (false = true) by decide)] at H; exact H
      clear H
      have H := H1
      clear H1
      as_aux_lemma =>
        simp only [Option.some.injEq, Prod.mk.injEq] at H
        obtain ⟨rfl, rfl, rfl⟩ := H
        go_enter Try.func66, Try.ntmps66
        go_wp2_with (first | (go_at_call 68; (with_reducible refine (block_May.calls (wrap64 (a0 / 2)) false _ A3.out).mono ?_); rintro e w' ⟨rfl, ⟨nd, rfl⟩⟩))
        go_ret3
        exact ⟨by first | rfl | (simp; done) | (simp [*]; done), by repeat (first | exact Drawn0.refl _ | apply Drawn0.step)⟩

end Go.Proofs.Ytglekonhdjploaa.XCarveEdited
