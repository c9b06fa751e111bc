-- Laid by this session's own printer (wip/xprint.py): each Go function that the law reaches as a plain Lean function, and that the call comes to it.
import Derived.Test.YtglekonhdjploaaXMergeBackx0
import Derived.Test.YtglekonhdjploaaXMergeBackx3
import Derived.Test.YtglekonhdjploaaXMergeBackx4
namespace Go.Proofs.Ytglekonhdjploaa.XMergeBack
open Go.RowKit Go.Proofs.YtglekonhdjploaaW.PrintWords Go.Proofs.YtglekonhdjploaaW.PrintLast Go.Proofs.YtglekonhdjploaaW.PrintMore
attribute [local go_sem] max2_int min2_int max_two min_two max_three min_three max_four min_four   -- for this text's walks alone
set_option linter.unusedVariables false
set_option linter.unusedSimpArgs false

/-! ### merge_Blocks: function 16 -/
def merge_Blocks.f (k : Nat) (l0 : List (S35)) (a1 : Int) : Option ((List (S35)) × Bool) := (merge_around.f k l0 a1).bind fun bt128 => (if bt128.2.2 = true then (if 0 ≤ bt128.1 then (if bt128.1 < (l0.length : Int) then (if bt128.1 ≤ bt128.2.1 then (if bt128.2.1 ≤ (l0.length : Int) then ((merge_words.f k ((l0.take (bt128.2.1 : Int).toNat).drop (bt128.1 : Int).toNat)).bind fun t137 => (if bt128.1 ≤ (l0.length : Int) then (if 0 ≤ bt128.2.1 then ((api_Block_59.f k (([(l0.take (bt128.1 : Int).toNat), (([(⟨(rd_T35 l0 bt128.1).f0, t137, false⟩ : S35)] : List (S35))), (l0.drop (bt128.2.1 : Int).toNat)] : List (List (S35))))).bind fun t155 => (some (t155, true))) else (none)) else (none))) else (none)) else (none)) else (none)) else (none)) else (some (([] : List (S35)), false)))
theorem merge_Blocks.mono : ∀ a0 a1 k, LeO (merge_Blocks.f k a0 a1) (merge_Blocks.f (k + 1) a0 a1) := by
  intro a0 a1 k
  unfold merge_Blocks.f
  repeat' first
      | (with_reducible exact api_Block_59.mono _ _)
      | (with_reducible exact merge_around.mono _ _ _)
      | (with_reducible exact merge_words.mono _ _)
      | (with_reducible exact LeO.refl _)
      | (with_reducible exact LeO.none _)
      | (with_reducible refine LeO.ite ?_ ?_)
      | (with_reducible refine LeO.bind ?_ (fun _ => ?_))
      | exact api_Block_59.mono _ _
      | exact merge_around.mono _ _ _
      | exact merge_words.mono _ _
      | exact LeO.none _
      | refine LeO.ite ?_ ?_
      | refine LeO.bind ?_ (fun _ => ?_)
def merge_Blocks.T4 : Bool × List (List Nat × List Nat) := (true, [([], []), ([], []), ([0, 1], [0, 1]), ([2], [2]), ([3], [3]), ([], []), ([], []), ([], []), ([5, 6, 7], [5, 6, 7]), ([8], [8]), ([4, 9], [4, 9]), ([], []), ([11, 10, 9, 0, 1, 2, 3, 4, 5, 6, 7, 8, 9, 10, 11], [10, 11])])
def merge_Blocks.B4 : List Nat := [0, 0, 3, 7, 15, 0, 0, 0, 224, 480, 1023, 0, 4095]
theorem merge_Blocks.tab4 : rtab .any (opsOf Try.f16 4) = merge_Blocks.T4 := by kernel_rfl
theorem merge_Blocks.bits4 : waitsOk merge_Blocks.T4.2 merge_Blocks.B4 = true := by kernel_rfl
def merge_Blocks.T5 : Bool × List (List Nat × List Nat) := (true, [([], []), ([], []), ([0, 1], [0, 1]), ([], []), ([3], [3]), ([], []), ([], []), ([5, 6], [5, 6]), ([2, 4, 7], [2, 4, 7]), ([8], [8]), ([9, 9, 0, 1, 2, 3, 4, 5, 6, 7, 8, 9], [9]), ([10, 0, 1, 2, 3, 4, 5, 6, 7, 8, 9, 10], [])])
def merge_Blocks.B5 : List Nat := [0, 0, 3, 0, 8, 0, 0, 96, 255, 511, 1023, 2047]
theorem merge_Blocks.tab5 : rtab .any (opsOf Try.f16 5) = merge_Blocks.T5 := by kernel_rfl
theorem merge_Blocks.bits5 : waitsOk merge_Blocks.T5.2 merge_Blocks.B5 = true := by kernel_rfl
set_option maxHeartbeats 8000000 in
set_option maxRecDepth 100000 in
theorem merge_Blocks.calls (k : Nat) (P0_ : Nat → Prop) (A0 : Option Addr) (c0 : Nat) (l0 : List (S35)) (a1 : Int) (r1 : List (S35)) (r2 : Bool) (w : World) (hs0 : Kd.V k35 35 w w.heap.size (fun k_ => P0_ k_) (.slice A0 l0.length c0) l0) (h : merge_Blocks.f k l0 a1 = some (r1, r2)) :
    Calls Try.prog 16 #[.slice A0 l0.length c0, .int .i64 a1] w fun e w' => ∃ v0_ : Value, e = .returned (.tuple #[v0_, .bool r2]) ∧ Kd.R k35 35 w' w.heap.size (fun k_ => (w.heap.size ≤ k_)) v0_ r1 ∧ Below w.heap.size w w' := by
  have hu35 := Try.underlying35
  have HO0 := Aside0.mk (show Kd.V k35 35 w w.heap.size (fun k_ => (P0_ k_ ∨ w.heap.size ≤ k_)) (.slice A0 l0.length c0) l0 from Kd.V_mono hs0 (fun k_ hk => .inl hk))
  have HB := Aside0.mk (Below.refl w.heap.size w)
  have H : ((merge_around.f k l0 a1).bind fun bt128 => (if bt128.2.2 = true then (if 0 ≤ bt128.1 then (if bt128.1 < (l0.length : Int) then (if bt128.1 ≤ bt128.2.1 then (if bt128.2.1 ≤ (l0.length : Int) then ((merge_words.f k ((l0.take (bt128.2.1 : Int).toNat).drop (bt128.1 : Int).toNat)).bind fun t137 => (if bt128.1 ≤ (l0.length : Int) then (if 0 ≤ bt128.2.1 then ((api_Block_59.f k (([(l0.take (bt128.1 : Int).toNat), (([(⟨(rd_T35 l0 bt128.1).f0, t137, false⟩ : S35)] : List (S35))), (l0.drop (bt128.2.1 : Int).toNat)] : List (List (S35))))).bind fun t155 => (some (t155, true))) else (none)) else (none))) else (none)) else (none)) else (none)) else (none)) else (some (([] : List (S35)), false)))) = some (r1, r2) := h
  clear h
  replace H := Option.bind_eq_some_iff.mp H
  obtain ⟨⟨t128, t129, t130⟩, A30, H⟩ := H
  replace H : (if t130 = true then (if 0 ≤ t128 then (if t128 < (l0.length : Int) then (if t128 ≤ t129 then (if t129 ≤ (l0.length : Int) then ((merge_words.f k ((l0.take (t129 : Int).toNat).drop (t128 : Int).toNat)).bind fun t137 => (if t128 ≤ (l0.length : Int) then (if 0 ≤ t129 then ((api_Block_59.f k (([(l0.take (t128 : Int).toNat), (([(⟨(rd_T35 l0 t128).f0, t137, false⟩ : S35)] : List (S35))), (l0.drop (t129 : Int).toNat)] : List (List (S35))))).bind fun t155 => (some (t155, true))) else (none)) else (none))) else (none)) else (none)) else (none)) else (none)) else (some (([] : List (S35)), false))) = some (r1, r2) := H
  have A3 := Aside0.mk A30
  clear A30
  by_cases c4 : t130 = true
  · subst c4
    have H1 : (if 0 ≤ t128 then (if t128 < (l0.length : Int) then (if t128 ≤ t129 then (if t129 ≤ (l0.length : Int) then ((merge_words.f k ((l0.take (t129 : Int).toNat).drop (t128 : Int).toNat)).bind fun t137 => (if t128 ≤ (l0.length : Int) then (if 0 ≤ t129 then ((api_Block_59.f k (([(l0.take (t128 : Int).toNat), (([(⟨(rd_T35 l0 t128).f0, t137, false⟩ : S35)] : List (S35))), (l0.drop (t129 : Int).toNat)] : List (List (S35))))).bind fun t155 => (some (t155, true))) else (none)) else (none))) else (none)) else (none)) else (none)) else (none)) = some (r1, r2) := by rw [if_pos rfl] at H; exact H
    clear H
    have H := H1
    clear H1
    by_cases c5 : 0 ≤ t128
    · rw [if_pos c5] at H
      have c5b0 : decide (0 ≤ t128) = true := decide_eq_true c5
      clear c5
      by_cases c6 : t128 < (l0.length : Int)
      · rw [if_pos c6] at H
        have c6b0 : decide (t128 < (l0.length : Int)) = true := decide_eq_true c6
        clear c6
        have c7b0 := eq_true (of_decide_eq_true (by first | (with_reducible assumption) | assumption) : 0 ≤ t128)
        by_cases c8 : t128 ≤ t129
        · rw [if_pos c8] at H
          have c8b0 := eq_true c8
          have c8b1 : decide (t128 ≤ t129) = true := decide_eq_true c8
          clear c8
          by_cases c9 : t129 ≤ (l0.length : Int)
          · rw [if_pos c9] at H
            have c9b0 := eq_true c9
            have c9b1 : decide (t129 ≤ (l0.length : Int)) = true := decide_eq_true c9
            clear c9
            obtain ⟨y132, hy132⟩ : ∃ y_ : List (S35), y_ = ((l0.take (t129 : Int).toNat).drop (t128 : Int).toNat) := ⟨_, rfl⟩
            replace H : ((merge_words.f k y132).bind fun t137 => (if t128 ≤ (l0.length : Int) then (if 0 ≤ t129 then ((api_Block_59.f k (([(l0.take (t128 : Int).toNat), (([(⟨(rd_T35 l0 t128).f0, t137, false⟩ : S35)] : List (S35))), (l0.drop (t129 : Int).toNat)] : List (List (S35))))).bind fun t155 => (some (t155, true))) else (none)) else (none))) = some (r1, r2) := by first | (rw [hy132]; with_reducible exact H) | (have H2_ := (Option.bind_some _ _).symm.trans H; rw [hy132]; with_reducible exact H2_) | (have H2_ := (Option.bind_some _ _).symm.trans H; with_reducible exact H2_) | with_reducible exact H | (rw [hy132]; exact H) | exact H
            have Ny132 := Aside0.mk hy132
            clear hy132
            replace H := Option.bind_eq_some_iff.mp H
            obtain ⟨t137, A100, H⟩ := H
            replace H : (if t128 ≤ (l0.length : Int) then (if 0 ≤ t129 then ((api_Block_59.f k (([(l0.take (t128 : Int).toNat), (([(⟨(rd_T35 l0 t128).f0, t137, false⟩ : S35)] : List (S35))), (l0.drop (t129 : Int).toNat)] : List (List (S35))))).bind fun t155 => (some (t155, true))) else (none)) else (none)) = some (r1, r2) := H
            have A10 := Aside0.mk A100
            clear A100
            have c11b0 := eq_true (of_decide_eq_true (by first | (with_reducible assumption) | assumption) : 0 ≤ t128)
            by_cases c12 : t128 ≤ (l0.length : Int)
            · rw [if_pos c12] at H
              have c12b0 := eq_true c12
              have c12b1 : decide (t128 ≤ (l0.length : Int)) = true := decide_eq_true c12
              clear c12
              obtain ⟨y139, hy139⟩ : ∃ y_ : List (S35), y_ = (l0.take (t128 : Int).toNat) := ⟨_, rfl⟩
              replace H : (if 0 ≤ t129 then ((api_Block_59.f k (([y139, (([(⟨(rd_T35 l0 t128).f0, t137, false⟩ : S35)] : List (S35))), (l0.drop (t129 : Int).toNat)] : List (List (S35))))).bind fun t155 => (some (t155, true))) else (none)) = some (r1, r2) := by first | (rw [hy139]; with_reducible exact H) | (have H2_ := (Option.bind_some _ _).symm.trans H; rw [hy139]; with_reducible exact H2_) | (have H2_ := (Option.bind_some _ _).symm.trans H; with_reducible exact H2_) | with_reducible exact H | (rw [hy139]; exact H) | exact H
              have Ny139 := Aside0.mk hy139
              clear hy139
              obtain ⟨y144, hy144⟩ : ∃ y_ : List (S35), y_ = (([(⟨(rd_T35 l0 t128).f0, t137, false⟩ : S35)] : List (S35))) := ⟨_, rfl⟩
              replace H : (if 0 ≤ t129 then ((api_Block_59.f k (([y139, y144, (l0.drop (t129 : Int).toNat)] : List (List (S35))))).bind fun t155 => (some (t155, true))) else (none)) = some (r1, r2) := by first | (rw [hy144]; with_reducible exact H) | (have H2_ := (Option.bind_some _ _).symm.trans H; rw [hy144]; with_reducible exact H2_) | (have H2_ := (Option.bind_some _ _).symm.trans H; with_reducible exact H2_) | with_reducible exact H | (rw [hy144]; exact H) | exact H
              have Ny144 := Aside0.mk hy144
              clear hy144
              by_cases c13 : 0 ≤ t129
              · rw [if_pos c13] at H
                have c13b0 := eq_true c13
                have c13b1 : decide (0 ≤ t129) = true := decide_eq_true c13
                clear c13
                have c14b0 := eq_true (of_decide_eq_true (by first | (with_reducible assumption) | assumption) : t129 ≤ (l0.length : Int))
                obtain ⟨y147, hy147⟩ : ∃ y_ : List (S35), y_ = (l0.drop (t129 : Int).toNat) := ⟨_, rfl⟩
                replace H : ((api_Block_59.f k (([y139, y144, y147] : List (List (S35))))).bind fun t155 => (some (t155, true))) = some (r1, r2) := by first | (rw [hy147]; with_reducible exact H) | (have H2_ := (Option.bind_some _ _).symm.trans H; rw [hy147]; with_reducible exact H2_) | (have H2_ := (Option.bind_some _ _).symm.trans H; with_reducible exact H2_) | with_reducible exact H | (rw [hy147]; exact H) | exact H
                have Ny147 := Aside0.mk hy147
                clear hy147
                obtain ⟨y152, hy152⟩ : ∃ y_ : List (List (S35)), y_ = (([y139, y144, y147] : List (List (S35)))) := ⟨_, rfl⟩
                replace H : ((api_Block_59.f k y152).bind fun t155 => (some (t155, true))) = some (r1, r2) := by first | (rw [hy152]; with_reducible exact H) | (have H2_ := (Option.bind_some _ _).symm.trans H; rw [hy152]; with_reducible exact H2_) | (have H2_ := (Option.bind_some _ _).symm.trans H; with_reducible exact H2_) | with_reducible exact H | (rw [hy152]; exact H) | exact H
                have Ny152 := Aside0.mk hy152
                clear hy152
                replace H := Option.bind_eq_some_iff.mp H
                obtain ⟨t155, A150, H⟩ := H
                replace H : (some (t155, true)) = some (r1, r2) := H
                have A15 := Aside0.mk A150
                clear A150
                simp only [Option.some.injEq, Prod.mk.injEq] at H
                obtain ⟨rfl, rfl⟩ := H
                go_enter Try.func16, Try.ntmps16
                try go_wp2_with (first | ((with_reducible refine gate_callee (f := 57) rfl ?_); refine goesL_ (some 13) rfl rfl Try.func57 (by kernel_rfl) rfl #[.slice A0 l0.length c0, .int .i64 a1] rfl (by (try simp only [List.map_toArray, List.map_cons, List.map_nil]); first | done | rfl | (simp only [List.length_drop, List.length_take]; rfl)) ?_; (with_reducible refine (merge_around.calls k _ _ l0 a1 t128 t129 true _ ?side1 ?side2 A3.out).mono ?_); (case side1 => repeat (first | exact (Kd.V_reads' HO0.out).2.2 | (with_reducible refine Kd.C_alloc ?_ _) | (with_reducible refine Kd.C_drewN ?_ _) | (with_reducible refine Kd.C_drew ?_))); (case side2 => exact (Kd.V_reads' HO0.out).2.1); rintro e w16 ⟨rfl, hb⟩; refine ⟨_, rfl, ?_⟩; have n0_ := Aside0.mk (Kd.V_below (by (with_reducible repeat (first | apply Kd.V_alloc | apply Kd.V_drewN | apply Kd.V_drew)); exact HO0.out) hb); have n1_ := Aside0.mk (below_step (by repeat (first | (with_reducible first | exact HB.out | apply below_alloc | apply pw_below_drewN | apply below_drew1) | exact HB.out)) hb); clear HO0; clear HB; have HO0 := n0_; have HB := n1_; clear n0_ n1_; (try clear hb); (try clear hb2); (try clear hk); (try clear hi)))
                have n0_ := Aside0.mk (Kd.V_drew HO0.out)
                have n1_ := Aside0.mk (below_drew1 HB.out)
                clear HO0
                clear HB
                have HO0 := n0_
                have HB := n1_
                clear n0_ n1_
                have p131 : 0 ≤ (t128 : Int) := of_decide_eq_true (by first | (with_reducible assumption) | assumption)
                have q131 : t128 < (l0.length : Int) := of_decide_eq_true (by first | (with_reducible assumption) | assumption)
                obtain ⟨ad131, e131, hx131_0, hx131_1, hx131_2⟩ := at_T35 (Kd.V_reads' HO0.out).2.2 t128 p131 q131
                cases e131
                replace p131 := eq_true p131
                replace q131 := eq_true q131
                have q18 : (t129 : Int) ≤ ((l0.length : Int) : Int) := of_decide_eq_true (by first | (with_reducible assumption) | assumption)
                obtain ⟨i018, hi018, _, hsz18, _⟩ := info_parts info35
                have hroom18 : l0.length ≤ c0 := (Kd.V_reads' HO0.out).2.1
                have hC18 : Kd.F k35 _ _ (some ad131) l0.length l0 := (Kd.V_at (base := w.heap.size) HO0.out).2.2
                have ql18 : (t128 : Int) ≤ (t129 : Int) := of_decide_eq_true (by first | (with_reducible assumption) | assumption)
                have q018 : (0 : Int) ≤ (t128 : Int) := of_decide_eq_true (by first | (with_reducible assumption) | assumption)
                have hcut18 := cut_mid (P := Try.prog) 22 35 .i64 .i64 Try.underlying22 hi018 3 hsz18 (some ad131) l0.length c0 t128 t129 q018 ql18 q18 hroom18
                have hr18 := Kd.F_mid (lo := (t128 : Int).toNat) (hi := (t129 : Int).toNat) (c := c0) hC18 (by omega) (by omega) hroom18
                obtain ⟨A18, hA18⟩ : ∃ A1, A1 = (if c0 = (t128 : Int).toNat then (some ad131) else ((some ad131) : Option Addr).map (·.add ((t128 : Int).toNat * 3))) := ⟨_, rfl⟩
                obtain ⟨c18, hc18⟩ : ∃ c1, c1 = c0 - (t128 : Int).toNat := ⟨_, rfl⟩
                have hy18 : y132.length = (t129 : Int).toNat - (t128 : Int).toNat := (by rw [Ny132.out, List.length_drop, List.length_take] <;> omega)
                rw [show ((l0).take (t129 : Int).toNat).drop (t128 : Int).toNat = y132 from Ny132.out.symm] at hr18
                replace hr18 : Kd.F k35 _ _ A18 y132.length y132 := (by rw [hA18]; exact hr18)
                rw [← hy18, ← hA18, ← hc18] at hcut18
                have HO136 := Aside0.mk (show Kd.V k35 35 _ w.heap.size _ (.slice A18 y132.length c18) y132 from Kd.V_mk (by rw [hy18, hc18]; exact Nat.sub_le_sub_right (Nat.le_trans (by omega) hroom18) _) hr18)
                have HC136 := Aside0.mk (show y132.length ≤ c18 from by rw [hy18, hc18]; exact Nat.sub_le_sub_right (Nat.le_trans (by omega) hroom18) _)
                clear hr18 hC18 hroom18 hi018 hsz18 hc18
                have KY18 := Aside0.mk hy18
                have KA18 := Aside0.mk hA18
                clear hy18 hA18
                replace q18 := eq_true q18
                refine start_ (n := 13) (S := fun w' => w'.cell? (ad131.add ((t128).toNat * 3)) = some (.int .i64 ((rd_T35 l0 t128).f0)) ∧ w'.cell? ⟨(ad131.add ((t128).toNat * 3)).block, (ad131.add ((t128).toNat * 3)).off + 1, none⟩ = some (.int .i64 ((rd_T35 l0 t128).f1)) ∧ w'.cell? ⟨(ad131.add ((t128).toNat * 3)).block, (ad131.add ((t128).toNat * 3)).off + 2, none⟩ = some (.bool ((rd_T35 l0 t128).f2))) (ds := []) #[false, false, false, false, false, false, false, false, false, false, false, false, false] (by kernel_rfl) rfl rfl ⟨hx131_0, hx131_1, hx131_2⟩ (fun hHeld => ?_); refine with_tabW merge_Blocks.tab4 merge_Blocks.bits4 (fun HT_ HW_ => ?_)
                generalize w16.drew = w17 at HO0 HB HO136 hx131_0 hx131_1 hx131_2 hHeld ⊢
                refine pure_ (i := 0) (N := some 19) (v := ?_) (a' := ?_) #[true, false, false, false, false, false, false, false, false, false, false, false, false] rfl rfl (any_of HT_.out (by kernel_rfl)) (fun _ _ _ h => h) (Or.inl ⟨by rfl, ?_⟩) ?_ ?_
                rotate_left
                · intro w'
                  go_simp
                  with_reducible rfl
                rotate_left
                · simp only [Act.put, List.setIfInBounds_toArray, List.set_cons_zero, List.set_cons_succ, i64_w, i32_w]
                  rfl
                refine pure_ (i := 1) (N := some 20) (v := ?_) (a' := ?_) #[true, true, false, false, false, false, false, false, false, false, false, false, false] rfl rfl (any_of HT_.out (by kernel_rfl)) (fun _ _ _ h => h) (Or.inl ⟨by rfl, ?_⟩) ?_ ?_
                rotate_left
                · intro w'
                  go_simp
                  with_reducible rfl
                rotate_left
                · simp only [Act.put, List.setIfInBounds_toArray, List.set_cons_zero, List.set_cons_succ, i64_w, i32_w]
                  rfl
                refine pure_ (i := 2) (N := some 21) (v := ?_) (a' := ?_) #[true, true, true, false, false, false, false, false, false, false, false, false, false] rfl rfl (any_of HT_.out (by kernel_rfl)) (fun _ _ _ h => h) (Or.inl ⟨by rfl, ?_⟩) ?_ ?_
                rotate_left
                · intro w'
                  go_simp
                  with_reducible rfl
                rotate_left
                · simp only [Act.put, List.setIfInBounds_toArray, List.set_cons_zero, List.set_cons_succ, i64_w, i32_w]
                  rfl
                refine pure_ (i := 3) (N := some 22) (v := ?_) (a' := ?_) #[true, true, true, true, false, false, false, false, false, false, false, false, false] rfl rfl (any_of HT_.out (by kernel_rfl)) (fun _ _ _ h => h) (Or.inl ⟨by rfl, ?_⟩) ?_ ?_
                rotate_left
                · intro w'
                  go_simp
                  with_reducible rfl
                rotate_left
                · simp only [Act.put, List.setIfInBounds_toArray, List.set_cons_zero, List.set_cons_succ, i64_w, i32_w]
                  rfl
                refine pure_ (i := 5) (N := some 24) (v := ?_) (a' := ?_) #[true, true, true, true, false, true, false, false, false, false, false, false, false] rfl rfl (any_of HT_.out (by kernel_rfl)) (fun _ _ _ h => h) (Or.inl ⟨by rfl, ?_⟩) ?_ ?_
                rotate_left
                · intro w'
                  go_simp
                  with_reducible rfl
                rotate_left
                · simp only [Act.put, List.setIfInBounds_toArray, List.set_cons_zero, List.set_cons_succ, i64_w, i32_w]
                  rfl
                refine pure_ (i := 6) (N := some 25) (v := ?_) (a' := ?_) #[true, true, true, true, false, true, true, false, false, false, false, false, false] rfl rfl (any_of HT_.out (by kernel_rfl)) (fun _ _ _ h => h) (Or.inl ⟨by rfl, ?_⟩) ?_ ?_
                rotate_left
                · intro w'
                  go_simp
                  with_reducible rfl
                rotate_left
                · simp only [Act.put, List.setIfInBounds_toArray, List.set_cons_zero, List.set_cons_succ, i64_w, i32_w]
                  rfl
                refine pure_ (i := 7) (N := some 26) (v := ?_) (a' := ?_) #[true, true, true, true, false, true, true, true, false, false, false, false, false] rfl rfl (any_of HT_.out (by kernel_rfl)) (fun _ _ _ h => h) (Or.inl ⟨by rfl, ?_⟩) ?_ ?_
                rotate_left
                · intro w'
                  go_simp
                  with_reducible rfl
                rotate_left
                · simp only [Act.put, List.setIfInBounds_toArray, List.set_cons_zero, List.set_cons_succ, i64_w, i32_w]
                  rfl
                refine pure_ (i := 8) (N := some 27) (v := ?_) (a' := ?_) #[true, true, true, true, false, true, true, true, true, false, false, false, false] rfl rfl (any_of HT_.out (by kernel_rfl)) (fun _ _ _ h => h) (Or.inl ⟨by rfl, ?_⟩) ?_ ?_
                rotate_left
                · intro w'
                  go_simp
                  with_reducible rfl
                rotate_left
                · simp only [Act.put, List.setIfInBounds_toArray, List.set_cons_zero, List.set_cons_succ, i64_w, i32_w]
                  rfl
                refine take_ (i := 4) (N := some 23) (v := ?_) (a' := ?_) #[true, true, true, true, true, true, true, true, true, false, false, false, false] rfl rfl (take_ofW HT_.out HW_.out (by kernel_rfl)) (fun _ _ _ h => h) (Or.inl ⟨by rfl, ?_⟩) hHeld ?_ ?_
                rotate_left
                · rintro w' ⟨s0, s1, s2⟩
                  go_simp
                  with_reducible rfl
                rotate_left
                · simp only [Act.put, List.setIfInBounds_toArray, List.set_cons_zero, List.set_cons_succ, i64_w, i32_w]
                  rfl
                refine join_ (σ := Nat) 1 #[true, true, true, true, true, true, true, true, true, true, true, true, false] (fun s_ => [(28, .int .i64 t137), (9, .pointer (some ⟨s_, 0, none⟩)), (29, .agg #[.int .i64 ((rd_T35 l0 t128).f0), .int .i64 t137, .bool false])]) (fun s_ w' => (w'.cell? (ad131.add ((t128).toNat * 3)) = some (.int .i64 ((rd_T35 l0 t128).f0)) ∧ w'.cell? ⟨(ad131.add ((t128).toNat * 3)).block, (ad131.add ((t128).toNat * 3)).off + 1, none⟩ = some (.int .i64 ((rd_T35 l0 t128).f1)) ∧ w'.cell? ⟨(ad131.add ((t128).toNat * 3)).block, (ad131.add ((t128).toNat * 3)).off + 2, none⟩ = some (.bool ((rd_T35 l0 t128).f2))) ∧ (Kd.V k35 35 w' w.heap.size (fun k_ => (P0_ k_ ∨ w.heap.size ≤ k_) ∧ k_ ≠ s_) (.slice (some ad131) l0.length c0) l0) ∧ (Kd.V k35 35 w' w.heap.size (fun k_ => (P0_ k_ ∨ w.heap.size ≤ k_) ∧ k_ ≠ s_) (.slice A18 y132.length c18) y132) ∧ (w'.heap[s_]? = some (.cells #[.int .i64 0, .int .i64 0, .bool false] 35 (0, 0))) ∧ (w.heap.size ≤ s_) ∧ (w.heap.size ≤ s_) ∧ (Below w.heap.size w w')) ?_ ?_
                rotate_left
                · intro hCont
                  refine two_ (i := 9) (j := 11) (Ni := some 28) (Nj := some 9) #[true, true, true, true, true, true, true, true, true, true, false, false, false] #[true, true, true, true, true, true, true, true, true, false, false, true, false] rfl rfl rfl rfl (two_of HT_.out (by kernel_rfl)) (by decide) (by decide) (fun K hK => ?_) (fun K hK => ?_)
                  · skip
                    refine goes_ Try.func58 (by kernel_rfl) rfl #[.slice A18 y132.length c18] (by rfl) rfl rfl (by (try simp only [List.map_toArray, List.map_cons, List.map_nil]); first | done | rfl | (simp only [List.length_drop, List.length_take]; rfl)) ?_
                    with_reducible refine (merge_words.calls k _ _ y132 t137 _ ?side1 ?side2 A10.out).mono ?_
                    (case side1 => repeat (first | exact (Kd.V_reads' HO136.out).2.2 | (with_reducible refine Kd.C_alloc ?_ _) | (with_reducible refine Kd.C_drewN ?_ _) | (with_reducible refine Kd.C_drew ?_)))
                    (case side2 => exact (Kd.V_reads' HO136.out).2.1)
                    rintro e w19 ⟨rfl, hb⟩
                    have HS0_ := (hb.cell (World.block_lt_of_cell? _ _ (hHeld.1))).trans (hHeld.1)
                    have HS1_ := (hb.cell (World.block_lt_of_cell? _ _ (hHeld.2.1))).trans (hHeld.2.1)
                    have HS2_ := (hb.cell (World.block_lt_of_cell? _ _ (hHeld.2.2))).trans (hHeld.2.2)
                    refine ⟨_, rfl, ?_⟩
                    have n0_ := Aside0.mk (Kd.V_below (by (with_reducible repeat (first | apply Kd.V_alloc | apply Kd.V_drewN | apply Kd.V_drew)); exact HO0.out) hb)
                    have n1_ := Aside0.mk (Kd.V_below (by (with_reducible repeat (first | apply Kd.V_alloc | apply Kd.V_drewN | apply Kd.V_drew)); exact HO136.out) hb)
                    have n2_ := Aside0.mk (below_step (by repeat (first | (with_reducible first | exact HB.out | apply below_alloc | apply pw_below_drewN | apply below_drew1) | exact HB.out)) hb)
                    clear HO0
                    clear HO136
                    clear HB
                    have HO0 := n0_
                    have HO136 := n1_
                    have HB := n2_
                    clear n0_ n1_ n2_
                    (try clear hb)
                    (try clear hb2)
                    (try clear hk)
                    (try clear hi)
                    refine hK.out _ _ ⟨HS0_, HS1_, HS2_⟩ (fun hHeld => ?_)
                    clear hK K
                    refine norm_ (a' := ?_) ?_ ?_
                    rotate_left
                    · show Act.put _ (some 28) _ = _
                      simp only [Act.put, List.setIfInBounds_toArray, List.set_cons_zero, List.set_cons_succ, i64_w, i32_w]
                      rfl
                    refine pure_ (i := 10) (N := some 29) (v := ?_) (a' := ?_) #[true, true, true, true, true, true, true, true, true, true, true, false, false] rfl rfl (any_of HT_.out (by kernel_rfl)) (fun _ _ _ h => h) (Or.inl ⟨by rfl, ?_⟩) ?_ ?_
                    rotate_left
                    · intro w'
                      go_simp
                      with_reducible rfl
                    rotate_left
                    · simp only [Act.put, List.setIfInBounds_toArray, List.set_cons_zero, List.set_cons_succ, i64_w, i32_w]
                      rfl
                    refine one_ (i := 11) (N := some 9) #[true, true, true, true, true, true, true, true, true, true, true, true, false] rfl rfl (one_of HT_.out (by kernel_rfl)) (by decide) (fun K hK => ?_)
                    refine box_step ?hg (N := 9) ?hd (cs := #[.int .i64 0, .int .i64 0, .bool false]) (t := 35) ?hr ?_; (case hd => rfl); (case hg => rfl); (case hr => first | (go_simp; done) | (go_simp; rfl))
                    intro gb138 hg w20 hbox hb
                    have HS0_ := (hb.cell (World.block_lt_of_cell? _ _ (hHeld.1))).trans (hHeld.1)
                    have HS1_ := (hb.cell (World.block_lt_of_cell? _ _ (hHeld.2.1))).trans (hHeld.2.1)
                    have HS2_ := (hb.cell (World.block_lt_of_cell? _ _ (hHeld.2.2))).trans (hHeld.2.2)
                    have n0_ := Aside0.mk (Kd.V_below (Kd.V_elderB (by (with_reducible repeat (first | apply Kd.V_alloc | apply Kd.V_drewN | apply Kd.V_drew)); exact HO0.out) gb138 (Nat.le_of_eq hg.symm)) hb)
                    have n1_ := Aside0.mk (Kd.V_below (Kd.V_elderB (by (with_reducible repeat (first | apply Kd.V_alloc | apply Kd.V_drewN | apply Kd.V_drew)); exact HO136.out) gb138 (Nat.le_of_eq hg.symm)) hb)
                    have n2_ := Aside0.mk (below_step (by repeat (first | (with_reducible first | exact HB.out | apply below_alloc | apply pw_below_drewN | apply below_drew1) | exact HB.out)) hb)
                    have n3_ := Aside0.mk (hbox)
                    have n4_ := Aside0.mk ((by rw [hg]; exact (below_size (by repeat (first | (with_reducible first | exact HB.out | apply below_alloc | apply pw_below_drewN | apply below_drew1) | exact HB.out))) : w.heap.size ≤ gb138))
                    have n5_ := Aside0.mk ((by rw [hg]; exact (below_size (by repeat (first | (with_reducible first | exact HB.out | apply below_alloc | apply pw_below_drewN | apply below_drew1) | exact HB.out))) : w.heap.size ≤ gb138))
                    clear HO0
                    clear HO136
                    clear HB
                    have HO0 := n0_
                    have HO136 := n1_
                    have HB := n2_
                    have BK138 := n3_
                    have GW138 := n4_
                    have GE138 := n5_
                    clear n0_ n1_ n2_ n3_ n4_ n5_
                    clear hb hbox hg
                    refine hK.out _ _ ⟨HS0_, HS1_, HS2_⟩ (fun hHeld => ?_)
                    clear hK K
                    refine norm_ (a' := ?_) ?_ ?_
                    rotate_left
                    · show Act.put _ (some 9) _ = _
                      simp only [Act.put, List.setIfInBounds_toArray, List.set_cons_zero, List.set_cons_succ, i64_w, i32_w]
                      rfl
                    exact norm_ (by simp only [putAll, Act.put, List.setIfInBounds_toArray, List.set_cons_zero, List.set_cons_succ]) (hCont (gb138) _ ⟨hHeld, (by (with_reducible repeat (first | apply Kd.V_alloc | apply Kd.V_drewN | apply Kd.V_drew)); exact HO0.out), (by (with_reducible repeat (first | apply Kd.V_alloc | apply Kd.V_drewN | apply Kd.V_drew)); exact HO136.out), (by (with_reducible repeat (first | refine blk_drewN ?_ _ | refine blk_drew ?_ | refine blk_alloc ?_ _)); exact BK138.out), GW138.out, GE138.out, (by repeat (first | (with_reducible first | exact HB.out | apply below_alloc | apply pw_below_drewN | apply below_drew1 | refine below_set ?_ GE138.out) | exact HB.out))⟩)
                  · skip
                    refine box_step ?hg (N := 9) ?hd (cs := #[.int .i64 0, .int .i64 0, .bool false]) (t := 35) ?hr ?_; (case hd => rfl); (case hg => rfl); (case hr => first | (go_simp; done) | (go_simp; rfl))
                    intro gb138 hg w19 hbox hb
                    have HS0_ := (hb.cell (World.block_lt_of_cell? _ _ (hHeld.1))).trans (hHeld.1)
                    have HS1_ := (hb.cell (World.block_lt_of_cell? _ _ (hHeld.2.1))).trans (hHeld.2.1)
                    have HS2_ := (hb.cell (World.block_lt_of_cell? _ _ (hHeld.2.2))).trans (hHeld.2.2)
                    have n0_ := Aside0.mk (Kd.V_below (Kd.V_elderB (by (with_reducible repeat (first | apply Kd.V_alloc | apply Kd.V_drewN | apply Kd.V_drew)); exact HO0.out) gb138 (Nat.le_of_eq hg.symm)) hb)
                    have n1_ := Aside0.mk (Kd.V_below (Kd.V_elderB (by (with_reducible repeat (first | apply Kd.V_alloc | apply Kd.V_drewN | apply Kd.V_drew)); exact HO136.out) gb138 (Nat.le_of_eq hg.symm)) hb)
                    have n2_ := Aside0.mk (below_step (by repeat (first | (with_reducible first | exact HB.out | apply below_alloc | apply pw_below_drewN | apply below_drew1) | exact HB.out)) hb)
                    have n3_ := Aside0.mk (hbox)
                    have n4_ := Aside0.mk ((by rw [hg]; exact (below_size (by repeat (first | (with_reducible first | exact HB.out | apply below_alloc | apply pw_below_drewN | apply below_drew1) | exact HB.out))) : w.heap.size ≤ gb138))
                    have n5_ := Aside0.mk ((by rw [hg]; exact (below_size (by repeat (first | (with_reducible first | exact HB.out | apply below_alloc | apply pw_below_drewN | apply below_drew1) | exact HB.out))) : w.heap.size ≤ gb138))
                    clear HO0
                    clear HO136
                    clear HB
                    have HO0 := n0_
                    have HO136 := n1_
                    have HB := n2_
                    have BK138 := n3_
                    have GW138 := n4_
                    have GE138 := n5_
                    clear n0_ n1_ n2_ n3_ n4_ n5_
                    clear hb hbox hg
                    refine hK.out _ _ ⟨HS0_, HS1_, HS2_⟩ (fun hHeld => ?_)
                    clear hK K
                    refine norm_ (a' := ?_) ?_ ?_
                    rotate_left
                    · show Act.put _ (some 9) _ = _
                      simp only [Act.put, List.setIfInBounds_toArray, List.set_cons_zero, List.set_cons_succ, i64_w, i32_w]
                      rfl
                    refine one_ (i := 9) (N := some 28) #[true, true, true, true, true, true, true, true, true, true, false, true, false] rfl rfl (one_of HT_.out (by kernel_rfl)) (by decide) (fun K hK => ?_)
                    refine goes_ Try.func58 (by kernel_rfl) rfl #[.slice A18 y132.length c18] (by rfl) rfl rfl (by (try simp only [List.map_toArray, List.map_cons, List.map_nil]); first | done | rfl | (simp only [List.length_drop, List.length_take]; rfl)) ?_
                    with_reducible refine (merge_words.calls k _ _ y132 t137 _ ?side1 ?side2 A10.out).mono ?_
                    (case side1 => repeat (first | exact (Kd.V_reads' HO136.out).2.2 | (with_reducible refine Kd.C_alloc ?_ _) | (with_reducible refine Kd.C_drewN ?_ _) | (with_reducible refine Kd.C_drew ?_)))
                    (case side2 => exact (Kd.V_reads' HO136.out).2.1)
                    rintro e w20 ⟨rfl, hb⟩
                    have HS0_ := (hb.cell (World.block_lt_of_cell? _ _ (hHeld.1))).trans (hHeld.1)
                    have HS1_ := (hb.cell (World.block_lt_of_cell? _ _ (hHeld.2.1))).trans (hHeld.2.1)
                    have HS2_ := (hb.cell (World.block_lt_of_cell? _ _ (hHeld.2.2))).trans (hHeld.2.2)
                    refine ⟨_, rfl, ?_⟩
                    have n0_ := Aside0.mk (Kd.V_below (by (with_reducible repeat (first | apply Kd.V_alloc | apply Kd.V_drewN | apply Kd.V_drew)); exact HO0.out) hb)
                    have n1_ := Aside0.mk (Kd.V_below (by (with_reducible repeat (first | apply Kd.V_alloc | apply Kd.V_drewN | apply Kd.V_drew)); exact HO136.out) hb)
                    have n2_ := Aside0.mk (blk_below (g := gb138) (o := .cells #[.int .i64 0, .int .i64 0, .bool false] 35 (0, 0)) (by (with_reducible repeat (first | refine blk_drewN ?_ _ | refine blk_drew ?_ | refine blk_alloc ?_ _)); exact BK138.out) hb)
                    have n3_ := Aside0.mk (below_step (by repeat (first | (with_reducible first | exact HB.out | apply below_alloc | apply pw_below_drewN | apply below_drew1 | refine below_set ?_ GE138.out) | exact HB.out)) hb)
                    clear HO0
                    clear HO136
                    clear BK138
                    clear HB
                    have HO0 := n0_
                    have HO136 := n1_
                    have BK138 := n2_
                    have HB := n3_
                    clear n0_ n1_ n2_ n3_
                    (try clear hb)
                    (try clear hb2)
                    (try clear hk)
                    (try clear hi)
                    refine hK.out _ _ ⟨HS0_, HS1_, HS2_⟩ (fun hHeld => ?_)
                    clear hK K
                    refine norm_ (a' := ?_) ?_ ?_
                    rotate_left
                    · show Act.put _ (some 28) _ = _
                      simp only [Act.put, List.setIfInBounds_toArray, List.set_cons_zero, List.set_cons_succ, i64_w, i32_w]
                      rfl
                    refine pure_ (i := 10) (N := some 29) (v := ?_) (a' := ?_) #[true, true, true, true, true, true, true, true, true, true, true, true, false] rfl rfl (any_of HT_.out (by kernel_rfl)) (fun _ _ _ h => h) (Or.inl ⟨by rfl, ?_⟩) ?_ ?_
                    rotate_left
                    · intro w'
                      go_simp
                      with_reducible rfl
                    rotate_left
                    · simp only [Act.put, List.setIfInBounds_toArray, List.set_cons_zero, List.set_cons_succ, i64_w, i32_w]
                      rfl
                    exact norm_ (by simp only [putAll, Act.put, List.setIfInBounds_toArray, List.set_cons_zero, List.set_cons_succ]) (hCont (gb138) _ ⟨hHeld, (by (with_reducible repeat (first | apply Kd.V_alloc | apply Kd.V_drewN | apply Kd.V_drew)); exact HO0.out), (by (with_reducible repeat (first | apply Kd.V_alloc | apply Kd.V_drewN | apply Kd.V_drew)); exact HO136.out), (by (with_reducible repeat (first | refine blk_drewN ?_ _ | refine blk_drew ?_ | refine blk_alloc ?_ _)); exact BK138.out), GW138.out, GE138.out, (by repeat (first | (with_reducible first | exact HB.out | apply below_alloc | apply pw_below_drewN | apply below_drew1 | refine below_set ?_ GE138.out) | exact HB.out))⟩)
                rintro gb138 w21 ⟨hS_, h0_, h1_, h2_, h3_, h4_, h5_⟩
                have n0_ : Aside0 (Kd.V k35 35 w21 w.heap.size (fun k_ => (P0_ k_ ∨ w.heap.size ≤ k_) ∧ k_ ≠ gb138) (.slice (some ad131) l0.length c0) l0) := ⟨h0_⟩
                have n1_ : Aside0 (Kd.V k35 35 w21 w.heap.size (fun k_ => (P0_ k_ ∨ w.heap.size ≤ k_) ∧ k_ ≠ gb138) (.slice A18 y132.length c18) y132) := ⟨h1_⟩
                have n2_ : Aside0 (w21.heap[gb138]? = some (.cells #[.int .i64 0, .int .i64 0, .bool false] 35 (0, 0))) := ⟨h2_⟩
                have n3_ : Aside0 (w.heap.size ≤ gb138) := ⟨h3_⟩
                have n4_ : Aside0 (w.heap.size ≤ gb138) := ⟨h4_⟩
                have n5_ : Aside0 (Below w.heap.size w w21) := ⟨h5_⟩
                clear HO0
                clear HB
                clear h0_ h1_ h2_ h3_ h4_ h5_
                have HO0 := n0_
                have HO136 := n1_
                have BK138 := n2_
                have GW138 := n3_
                have GE138 := n4_
                have HB := n5_
                clear n0_ n1_ n2_ n3_ n4_ n5_
                have hHeld : w21.cell? (ad131.add ((t128).toNat * 3)) = some (.int .i64 ((rd_T35 l0 t128).f0)) ∧ w21.cell? ⟨(ad131.add ((t128).toNat * 3)).block, (ad131.add ((t128).toNat * 3)).off + 1, none⟩ = some (.int .i64 ((rd_T35 l0 t128).f1)) ∧ w21.cell? ⟨(ad131.add ((t128).toNat * 3)).block, (ad131.add ((t128).toNat * 3)).off + 2, none⟩ = some (.bool ((rd_T35 l0 t128).f2)) := hS_
                refine norm_ (a' := ?_) ?_ ?_
                rotate_left
                · simp only [putAll, Act.put, List.setIfInBounds_toArray, List.set_cons_zero, List.set_cons_succ]
                  rfl
                refine one_ (i := 12) (N := none) #[true, true, true, true, true, true, true, true, true, true, true, true, true] rfl rfl (one_of HT_.out (by kernel_rfl)) (by decide) (fun K hK => ?_)
                have hs22 : w21.cell? ⟨gb138, 0, none⟩ = some (.int .i64 0) := (blk_cell BK138.out 0).trans rfl
                have hfs22 := blk_frozen BK138.out 0
                have hs23 : w21.cell? ⟨gb138, 1, none⟩ = some (.int .i64 0) := (blk_cell BK138.out 1).trans rfl
                have hfs23 := blk_frozen BK138.out 1
                have hs24 : w21.cell? ⟨gb138, 2, none⟩ = some (.bool false) := (blk_cell BK138.out 2).trans rfl
                have hfs24 := blk_frozen BK138.out 2
                refine skip_ (w1 := ?_) (by rfl) rfl ?_ ?_
                rotate_left
                · go_simp
                  rfl
                refine hK.out _ _ ⟨((cell_far (p := ⟨gb138, _, none⟩) (by first | exact (Kd.F_in (Kd.F_mono (ok' := fun k_ => k_ ≠ gb138) (Kd.V_at HO0.out).2.2 (fun _ hk => hk.2)) rfl (by have h0_ : 0 ≤ (t128 : Int) := of_decide_eq_true (by first | (with_reducible assumption) | assumption); have h1_ : (t128 : Int) < (l0.length : Int) := of_decide_eq_true (by first | (with_reducible assumption) | assumption); omega) (by decide)) | (rw [add_block]; exact (Kd.F_in (Kd.F_mono (ok' := fun k_ => k_ ≠ gb138) (Kd.V_at HO0.out).2.2 (fun _ hk => hk.2)) rfl (by have h0_ : 0 ≤ (t128 : Int) := of_decide_eq_true (by first | (with_reducible assumption) | assumption); have h1_ : (t128 : Int) < (l0.length : Int) := of_decide_eq_true (by first | (with_reducible assumption) | assumption); omega) (by decide))) | (show (Addr.add _ _).block ≠ _; rw [add_block]; exact (Kd.F_in (Kd.F_mono (ok' := fun k_ => k_ ≠ gb138) (Kd.V_at HO0.out).2.2 (fun _ hk => hk.2)) rfl (by have h0_ : 0 ≤ (t128 : Int) := of_decide_eq_true (by first | (with_reducible assumption) | assumption); have h1_ : (t128 : Int) < (l0.length : Int) := of_decide_eq_true (by first | (with_reducible assumption) | assumption); omega) (by decide))) | (dsimp only; exact (Kd.F_in (Kd.F_mono (ok' := fun k_ => k_ ≠ gb138) (Kd.V_at HO0.out).2.2 (fun _ hk => hk.2)) rfl (by have h0_ : 0 ≤ (t128 : Int) := of_decide_eq_true (by first | (with_reducible assumption) | assumption); have h1_ : (t128 : Int) < (l0.length : Int) := of_decide_eq_true (by first | (with_reducible assumption) | assumption); omega) (by decide)))) _).trans (((cell_far (p := ⟨gb138, _, none⟩) (by first | exact (Kd.F_in (Kd.F_mono (ok' := fun k_ => k_ ≠ gb138) (Kd.V_at HO0.out).2.2 (fun _ hk => hk.2)) rfl (by have h0_ : 0 ≤ (t128 : Int) := of_decide_eq_true (by first | (with_reducible assumption) | assumption); have h1_ : (t128 : Int) < (l0.length : Int) := of_decide_eq_true (by first | (with_reducible assumption) | assumption); omega) (by decide)) | (rw [add_block]; exact (Kd.F_in (Kd.F_mono (ok' := fun k_ => k_ ≠ gb138) (Kd.V_at HO0.out).2.2 (fun _ hk => hk.2)) rfl (by have h0_ : 0 ≤ (t128 : Int) := of_decide_eq_true (by first | (with_reducible assumption) | assumption); have h1_ : (t128 : Int) < (l0.length : Int) := of_decide_eq_true (by first | (with_reducible assumption) | assumption); omega) (by decide))) | (show (Addr.add _ _).block ≠ _; rw [add_block]; exact (Kd.F_in (Kd.F_mono (ok' := fun k_ => k_ ≠ gb138) (Kd.V_at HO0.out).2.2 (fun _ hk => hk.2)) rfl (by have h0_ : 0 ≤ (t128 : Int) := of_decide_eq_true (by first | (with_reducible assumption) | assumption); have h1_ : (t128 : Int) < (l0.length : Int) := of_decide_eq_true (by first | (with_reducible assumption) | assumption); omega) (by decide))) | (dsimp only; exact (Kd.F_in (Kd.F_mono (ok' := fun k_ => k_ ≠ gb138) (Kd.V_at HO0.out).2.2 (fun _ hk => hk.2)) rfl (by have h0_ : 0 ≤ (t128 : Int) := of_decide_eq_true (by first | (with_reducible assumption) | assumption); have h1_ : (t128 : Int) < (l0.length : Int) := of_decide_eq_true (by first | (with_reducible assumption) | assumption); omega) (by decide)))) _).trans (((cell_far (p := ⟨gb138, _, none⟩) (by first | exact (Kd.F_in (Kd.F_mono (ok' := fun k_ => k_ ≠ gb138) (Kd.V_at HO0.out).2.2 (fun _ hk => hk.2)) rfl (by have h0_ : 0 ≤ (t128 : Int) := of_decide_eq_true (by first | (with_reducible assumption) | assumption); have h1_ : (t128 : Int) < (l0.length : Int) := of_decide_eq_true (by first | (with_reducible assumption) | assumption); omega) (by decide)) | (rw [add_block]; exact (Kd.F_in (Kd.F_mono (ok' := fun k_ => k_ ≠ gb138) (Kd.V_at HO0.out).2.2 (fun _ hk => hk.2)) rfl (by have h0_ : 0 ≤ (t128 : Int) := of_decide_eq_true (by first | (with_reducible assumption) | assumption); have h1_ : (t128 : Int) < (l0.length : Int) := of_decide_eq_true (by first | (with_reducible assumption) | assumption); omega) (by decide))) | (show (Addr.add _ _).block ≠ _; rw [add_block]; exact (Kd.F_in (Kd.F_mono (ok' := fun k_ => k_ ≠ gb138) (Kd.V_at HO0.out).2.2 (fun _ hk => hk.2)) rfl (by have h0_ : 0 ≤ (t128 : Int) := of_decide_eq_true (by first | (with_reducible assumption) | assumption); have h1_ : (t128 : Int) < (l0.length : Int) := of_decide_eq_true (by first | (with_reducible assumption) | assumption); omega) (by decide))) | (dsimp only; exact (Kd.F_in (Kd.F_mono (ok' := fun k_ => k_ ≠ gb138) (Kd.V_at HO0.out).2.2 (fun _ hk => hk.2)) rfl (by have h0_ : 0 ≤ (t128 : Int) := of_decide_eq_true (by first | (with_reducible assumption) | assumption); have h1_ : (t128 : Int) < (l0.length : Int) := of_decide_eq_true (by first | (with_reducible assumption) | assumption); omega) (by decide)))) _).trans (hHeld.1)))))), ((cell_far (p := ⟨gb138, _, none⟩) (by first | exact (Kd.F_in (Kd.F_mono (ok' := fun k_ => k_ ≠ gb138) (Kd.V_at HO0.out).2.2 (fun _ hk => hk.2)) rfl (by have h0_ : 0 ≤ (t128 : Int) := of_decide_eq_true (by first | (with_reducible assumption) | assumption); have h1_ : (t128 : Int) < (l0.length : Int) := of_decide_eq_true (by first | (with_reducible assumption) | assumption); omega) (by decide)) | (rw [add_block]; exact (Kd.F_in (Kd.F_mono (ok' := fun k_ => k_ ≠ gb138) (Kd.V_at HO0.out).2.2 (fun _ hk => hk.2)) rfl (by have h0_ : 0 ≤ (t128 : Int) := of_decide_eq_true (by first | (with_reducible assumption) | assumption); have h1_ : (t128 : Int) < (l0.length : Int) := of_decide_eq_true (by first | (with_reducible assumption) | assumption); omega) (by decide))) | (show (Addr.add _ _).block ≠ _; rw [add_block]; exact (Kd.F_in (Kd.F_mono (ok' := fun k_ => k_ ≠ gb138) (Kd.V_at HO0.out).2.2 (fun _ hk => hk.2)) rfl (by have h0_ : 0 ≤ (t128 : Int) := of_decide_eq_true (by first | (with_reducible assumption) | assumption); have h1_ : (t128 : Int) < (l0.length : Int) := of_decide_eq_true (by first | (with_reducible assumption) | assumption); omega) (by decide))) | (dsimp only; exact (Kd.F_in (Kd.F_mono (ok' := fun k_ => k_ ≠ gb138) (Kd.V_at HO0.out).2.2 (fun _ hk => hk.2)) rfl (by have h0_ : 0 ≤ (t128 : Int) := of_decide_eq_true (by first | (with_reducible assumption) | assumption); have h1_ : (t128 : Int) < (l0.length : Int) := of_decide_eq_true (by first | (with_reducible assumption) | assumption); omega) (by decide)))) _).trans (((cell_far (p := ⟨gb138, _, none⟩) (by first | exact (Kd.F_in (Kd.F_mono (ok' := fun k_ => k_ ≠ gb138) (Kd.V_at HO0.out).2.2 (fun _ hk => hk.2)) rfl (by have h0_ : 0 ≤ (t128 : Int) := of_decide_eq_true (by first | (with_reducible assumption) | assumption); have h1_ : (t128 : Int) < (l0.length : Int) := of_decide_eq_true (by first | (with_reducible assumption) | assumption); omega) (by decide)) | (rw [add_block]; exact (Kd.F_in (Kd.F_mono (ok' := fun k_ => k_ ≠ gb138) (Kd.V_at HO0.out).2.2 (fun _ hk => hk.2)) rfl (by have h0_ : 0 ≤ (t128 : Int) := of_decide_eq_true (by first | (with_reducible assumption) | assumption); have h1_ : (t128 : Int) < (l0.length : Int) := of_decide_eq_true (by first | (with_reducible assumption) | assumption); omega) (by decide))) | (show (Addr.add _ _).block ≠ _; rw [add_block]; exact (Kd.F_in (Kd.F_mono (ok' := fun k_ => k_ ≠ gb138) (Kd.V_at HO0.out).2.2 (fun _ hk => hk.2)) rfl (by have h0_ : 0 ≤ (t128 : Int) := of_decide_eq_true (by first | (with_reducible assumption) | assumption); have h1_ : (t128 : Int) < (l0.length : Int) := of_decide_eq_true (by first | (with_reducible assumption) | assumption); omega) (by decide))) | (dsimp only; exact (Kd.F_in (Kd.F_mono (ok' := fun k_ => k_ ≠ gb138) (Kd.V_at HO0.out).2.2 (fun _ hk => hk.2)) rfl (by have h0_ : 0 ≤ (t128 : Int) := of_decide_eq_true (by first | (with_reducible assumption) | assumption); have h1_ : (t128 : Int) < (l0.length : Int) := of_decide_eq_true (by first | (with_reducible assumption) | assumption); omega) (by decide)))) _).trans (((cell_far (p := ⟨gb138, _, none⟩) (by first | exact (Kd.F_in (Kd.F_mono (ok' := fun k_ => k_ ≠ gb138) (Kd.V_at HO0.out).2.2 (fun _ hk => hk.2)) rfl (by have h0_ : 0 ≤ (t128 : Int) := of_decide_eq_true (by first | (with_reducible assumption) | assumption); have h1_ : (t128 : Int) < (l0.length : Int) := of_decide_eq_true (by first | (with_reducible assumption) | assumption); omega) (by decide)) | (rw [add_block]; exact (Kd.F_in (Kd.F_mono (ok' := fun k_ => k_ ≠ gb138) (Kd.V_at HO0.out).2.2 (fun _ hk => hk.2)) rfl (by have h0_ : 0 ≤ (t128 : Int) := of_decide_eq_true (by first | (with_reducible assumption) | assumption); have h1_ : (t128 : Int) < (l0.length : Int) := of_decide_eq_true (by first | (with_reducible assumption) | assumption); omega) (by decide))) | (show (Addr.add _ _).block ≠ _; rw [add_block]; exact (Kd.F_in (Kd.F_mono (ok' := fun k_ => k_ ≠ gb138) (Kd.V_at HO0.out).2.2 (fun _ hk => hk.2)) rfl (by have h0_ : 0 ≤ (t128 : Int) := of_decide_eq_true (by first | (with_reducible assumption) | assumption); have h1_ : (t128 : Int) < (l0.length : Int) := of_decide_eq_true (by first | (with_reducible assumption) | assumption); omega) (by decide))) | (dsimp only; exact (Kd.F_in (Kd.F_mono (ok' := fun k_ => k_ ≠ gb138) (Kd.V_at HO0.out).2.2 (fun _ hk => hk.2)) rfl (by have h0_ : 0 ≤ (t128 : Int) := of_decide_eq_true (by first | (with_reducible assumption) | assumption); have h1_ : (t128 : Int) < (l0.length : Int) := of_decide_eq_true (by first | (with_reducible assumption) | assumption); omega) (by decide)))) _).trans (hHeld.2.1)))))), ((cell_far (p := ⟨gb138, _, none⟩) (by first | exact (Kd.F_in (Kd.F_mono (ok' := fun k_ => k_ ≠ gb138) (Kd.V_at HO0.out).2.2 (fun _ hk => hk.2)) rfl (by have h0_ : 0 ≤ (t128 : Int) := of_decide_eq_true (by first | (with_reducible assumption) | assumption); have h1_ : (t128 : Int) < (l0.length : Int) := of_decide_eq_true (by first | (with_reducible assumption) | assumption); omega) (by decide)) | (rw [add_block]; exact (Kd.F_in (Kd.F_mono (ok' := fun k_ => k_ ≠ gb138) (Kd.V_at HO0.out).2.2 (fun _ hk => hk.2)) rfl (by have h0_ : 0 ≤ (t128 : Int) := of_decide_eq_true (by first | (with_reducible assumption) | assumption); have h1_ : (t128 : Int) < (l0.length : Int) := of_decide_eq_true (by first | (with_reducible assumption) | assumption); omega) (by decide))) | (show (Addr.add _ _).block ≠ _; rw [add_block]; exact (Kd.F_in (Kd.F_mono (ok' := fun k_ => k_ ≠ gb138) (Kd.V_at HO0.out).2.2 (fun _ hk => hk.2)) rfl (by have h0_ : 0 ≤ (t128 : Int) := of_decide_eq_true (by first | (with_reducible assumption) | assumption); have h1_ : (t128 : Int) < (l0.length : Int) := of_decide_eq_true (by first | (with_reducible assumption) | assumption); omega) (by decide))) | (dsimp only; exact (Kd.F_in (Kd.F_mono (ok' := fun k_ => k_ ≠ gb138) (Kd.V_at HO0.out).2.2 (fun _ hk => hk.2)) rfl (by have h0_ : 0 ≤ (t128 : Int) := of_decide_eq_true (by first | (with_reducible assumption) | assumption); have h1_ : (t128 : Int) < (l0.length : Int) := of_decide_eq_true (by first | (with_reducible assumption) | assumption); omega) (by decide)))) _).trans (((cell_far (p := ⟨gb138, _, none⟩) (by first | exact (Kd.F_in (Kd.F_mono (ok' := fun k_ => k_ ≠ gb138) (Kd.V_at HO0.out).2.2 (fun _ hk => hk.2)) rfl (by have h0_ : 0 ≤ (t128 : Int) := of_decide_eq_true (by first | (with_reducible assumption) | assumption); have h1_ : (t128 : Int) < (l0.length : Int) := of_decide_eq_true (by first | (with_reducible assumption) | assumption); omega) (by decide)) | (rw [add_block]; exact (Kd.F_in (Kd.F_mono (ok' := fun k_ => k_ ≠ gb138) (Kd.V_at HO0.out).2.2 (fun _ hk => hk.2)) rfl (by have h0_ : 0 ≤ (t128 : Int) := of_decide_eq_true (by first | (with_reducible assumption) | assumption); have h1_ : (t128 : Int) < (l0.length : Int) := of_decide_eq_true (by first | (with_reducible assumption) | assumption); omega) (by decide))) | (show (Addr.add _ _).block ≠ _; rw [add_block]; exact (Kd.F_in (Kd.F_mono (ok' := fun k_ => k_ ≠ gb138) (Kd.V_at HO0.out).2.2 (fun _ hk => hk.2)) rfl (by have h0_ : 0 ≤ (t128 : Int) := of_decide_eq_true (by first | (with_reducible assumption) | assumption); have h1_ : (t128 : Int) < (l0.length : Int) := of_decide_eq_true (by first | (with_reducible assumption) | assumption); omega) (by decide))) | (dsimp only; exact (Kd.F_in (Kd.F_mono (ok' := fun k_ => k_ ≠ gb138) (Kd.V_at HO0.out).2.2 (fun _ hk => hk.2)) rfl (by have h0_ : 0 ≤ (t128 : Int) := of_decide_eq_true (by first | (with_reducible assumption) | assumption); have h1_ : (t128 : Int) < (l0.length : Int) := of_decide_eq_true (by first | (with_reducible assumption) | assumption); omega) (by decide)))) _).trans (((cell_far (p := ⟨gb138, _, none⟩) (by first | exact (Kd.F_in (Kd.F_mono (ok' := fun k_ => k_ ≠ gb138) (Kd.V_at HO0.out).2.2 (fun _ hk => hk.2)) rfl (by have h0_ : 0 ≤ (t128 : Int) := of_decide_eq_true (by first | (with_reducible assumption) | assumption); have h1_ : (t128 : Int) < (l0.length : Int) := of_decide_eq_true (by first | (with_reducible assumption) | assumption); omega) (by decide)) | (rw [add_block]; exact (Kd.F_in (Kd.F_mono (ok' := fun k_ => k_ ≠ gb138) (Kd.V_at HO0.out).2.2 (fun _ hk => hk.2)) rfl (by have h0_ : 0 ≤ (t128 : Int) := of_decide_eq_true (by first | (with_reducible assumption) | assumption); have h1_ : (t128 : Int) < (l0.length : Int) := of_decide_eq_true (by first | (with_reducible assumption) | assumption); omega) (by decide))) | (show (Addr.add _ _).block ≠ _; rw [add_block]; exact (Kd.F_in (Kd.F_mono (ok' := fun k_ => k_ ≠ gb138) (Kd.V_at HO0.out).2.2 (fun _ hk => hk.2)) rfl (by have h0_ : 0 ≤ (t128 : Int) := of_decide_eq_true (by first | (with_reducible assumption) | assumption); have h1_ : (t128 : Int) < (l0.length : Int) := of_decide_eq_true (by first | (with_reducible assumption) | assumption); omega) (by decide))) | (dsimp only; exact (Kd.F_in (Kd.F_mono (ok' := fun k_ => k_ ≠ gb138) (Kd.V_at HO0.out).2.2 (fun _ hk => hk.2)) rfl (by have h0_ : 0 ≤ (t128 : Int) := of_decide_eq_true (by first | (with_reducible assumption) | assumption); have h1_ : (t128 : Int) < (l0.length : Int) := of_decide_eq_true (by first | (with_reducible assumption) | assumption); omega) (by decide)))) _).trans (hHeld.2.2))))))⟩ (fun hHeld => ?_)
                clear hK K
                refine done_ (done_of HT_.out (by kernel_rfl)) ?_
                try go_wp2
                have n0_ : Aside0 (Kd.V k35 35 (((w21.setCell ⟨gb138, 0, none⟩ (.int .i64 ((rd_T35 l0 t128).f0))).setCell ⟨gb138, 1, none⟩ (.int .i64 t137)).setCell ⟨gb138, 2, none⟩ (.bool false)) w.heap.size (fun k_ => (P0_ k_ ∨ w.heap.size ≤ k_) ∧ k_ ≠ gb138) (.slice (some ad131) l0.length c0) l0) := ⟨by (with_reducible repeat (first | apply Kd.V_alloc | apply Kd.V_drewN | apply Kd.V_drew)); exact Kd.V_mono (Kd.V_far (p := ⟨gb138, 2, none⟩) (Kd.V_far (p := ⟨gb138, 1, none⟩) (Kd.V_far (p := ⟨gb138, 0, none⟩) (Kd.V_mono HO0.out (fun k_ hk => (⟨hk, hk.2⟩ : _ ∧ k_ ≠ gb138))) (fun _ hk => hk.2) (.int .i64 ((rd_T35 l0 t128).f0))) (fun _ hk => hk.2) (.int .i64 t137)) (fun _ hk => hk.2) (.bool false)) (fun _ hk => ⟨hk.1.1, hk.1.2⟩)⟩
                have n1_ : Aside0 (Kd.V k35 35 (((w21.setCell ⟨gb138, 0, none⟩ (.int .i64 ((rd_T35 l0 t128).f0))).setCell ⟨gb138, 1, none⟩ (.int .i64 t137)).setCell ⟨gb138, 2, none⟩ (.bool false)) w.heap.size (fun k_ => (P0_ k_ ∨ w.heap.size ≤ k_) ∧ k_ ≠ gb138) (.slice A18 y132.length c18) y132) := ⟨by (with_reducible repeat (first | apply Kd.V_alloc | apply Kd.V_drewN | apply Kd.V_drew)); exact Kd.V_mono (Kd.V_far (p := ⟨gb138, 2, none⟩) (Kd.V_far (p := ⟨gb138, 1, none⟩) (Kd.V_far (p := ⟨gb138, 0, none⟩) (Kd.V_mono HO136.out (fun k_ hk => (⟨hk, hk.2⟩ : _ ∧ k_ ≠ gb138))) (fun _ hk => hk.2) (.int .i64 ((rd_T35 l0 t128).f0))) (fun _ hk => hk.2) (.int .i64 t137)) (fun _ hk => hk.2) (.bool false)) (fun _ hk => ⟨hk.1.1, hk.1.2⟩)⟩
                have n2_ : Aside0 ((((w21.setCell ⟨gb138, 0, none⟩ (.int .i64 ((rd_T35 l0 t128).f0))).setCell ⟨gb138, 1, none⟩ (.int .i64 t137)).setCell ⟨gb138, 2, none⟩ (.bool false)).heap[gb138]? = some (.cells #[.int .i64 ((rd_T35 l0 t128).f0), .int .i64 t137, .bool false] 35 (0, 0))) := ⟨by (with_reducible repeat (first | refine blk_drewN ?_ _ | refine blk_drew ?_ | refine blk_alloc ?_ _)); refine blk_put (cs := #[.int .i64 ((rd_T35 l0 t128).f0), .int .i64 t137, .bool false]) ?_ 2 _ rfl; (with_reducible repeat (first | refine blk_drewN ?_ _ | refine blk_drew ?_ | refine blk_alloc ?_ _)); refine blk_put (cs := #[.int .i64 ((rd_T35 l0 t128).f0), .int .i64 0, .bool false]) ?_ 1 _ rfl; (with_reducible repeat (first | refine blk_drewN ?_ _ | refine blk_drew ?_ | refine blk_alloc ?_ _)); refine blk_put (cs := #[.int .i64 0, .int .i64 0, .bool false]) ?_ 0 _ rfl; (with_reducible repeat (first | refine blk_drewN ?_ _ | refine blk_drew ?_ | refine blk_alloc ?_ _)); exact BK138.out⟩
                have n3_ : Aside0 (Below w.heap.size w (((w21.setCell ⟨gb138, 0, none⟩ (.int .i64 ((rd_T35 l0 t128).f0))).setCell ⟨gb138, 1, none⟩ (.int .i64 t137)).setCell ⟨gb138, 2, none⟩ (.bool false))) := ⟨by repeat (first | (with_reducible first | exact HB.out | apply below_alloc | apply pw_below_drewN | apply below_drew1 | refine below_set ?_ GE138.out) | exact HB.out)⟩
                (try clear HO0)
                (try clear HO136)
                (try clear BK138)
                (try clear HB)
                generalize (((w21.setCell ⟨gb138, 0, none⟩ (.int .i64 ((rd_T35 l0 t128).f0))).setCell ⟨gb138, 1, none⟩ (.int .i64 t137)).setCell ⟨gb138, 2, none⟩ (.bool false)) = w25 at n0_ n1_ n2_ n3_ ⊢
                have HO0 := n0_
                have HO136 := n1_
                have BK138 := n2_
                have HB := n3_
                clear n0_ n1_ n2_ n3_
                have n0_ := Aside0.mk (Kd.V_drew HO0.out)
                have n1_ := Aside0.mk (Kd.V_drew HO136.out)
                have n2_ := Aside0.mk (blk_drew BK138.out)
                have n3_ := Aside0.mk (below_drew1 HB.out)
                clear HO0
                clear HO136
                clear BK138
                clear HB
                have HO0 := n0_
                have HO136 := n1_
                have BK138 := n2_
                have HB := n3_
                clear n0_ n1_ n2_ n3_
                have q27 : (t128 : Int) ≤ ((l0.length : Int) : Int) := of_decide_eq_true (by first | (with_reducible assumption) | assumption)
                obtain ⟨i027, hi027, _, hsz27, _⟩ := info_parts info35
                have hroom27 : l0.length ≤ c0 := (Kd.V_reads' HO0.out).2.1
                have hC27 : Kd.F k35 _ _ (some ad131) l0.length l0 := (Kd.V_at (base := w.heap.size) HO0.out).2.2
                have hcut27 := cut_to (P := Try.prog) 22 35 .i64 Try.underlying22 hi027 (some ad131) l0.length c0 t128 (of_decide_eq_true (by first | (with_reducible assumption) | assumption)) q27 hroom27
                have hr27 := Kd.F_take (m := (t128 : Int).toNat) hC27 (by omega)
                have hy27 : y139.length = (t128 : Int).toNat := (by rw [Ny139.out, List.length_take]; omega)
                rw [← Ny139.out] at hr27
                rw [← hy27] at hcut27
                have HO143 := Aside0.mk (show Kd.V k35 35 _ w.heap.size _ (.slice (some ad131) y139.length c0) y139 from Kd.V_mk (by omega) hr27)
                have HC143 := Aside0.mk (show y139.length ≤ c0 from by omega)
                clear hr27 hC27 hroom27 hi027 hsz27
                have KY27 := Aside0.mk hy27
                clear hy27
                replace q27 := eq_true q27
                have q28 : (t129 : Int) ≤ ((l0.length : Int) : Int) := of_decide_eq_true (by first | (with_reducible assumption) | assumption)
                obtain ⟨i028, hi028, _, hsz28, _⟩ := info_parts info35
                have hroom28 : l0.length ≤ c0 := (Kd.V_reads' HO0.out).2.1
                have hC28 : Kd.F k35 _ _ (some ad131) l0.length l0 := (Kd.V_at (base := w.heap.size) HO0.out).2.2
                have q028 : (0 : Int) ≤ (t129 : Int) := of_decide_eq_true (by first | (with_reducible assumption) | assumption)
                have hcut28 := cut_from (P := Try.prog) 22 35 .i64 Try.underlying22 hi028 3 hsz28 (some ad131) l0.length c0 t129 q028 q28
                have hr28 := Kd.F_cut (m := (t129 : Int).toNat) (c := c0) hC28 (by omega) hroom28
                obtain ⟨A28, hA28⟩ : ∃ A1, A1 = (if c0 = (t129 : Int).toNat then (some ad131) else ((some ad131) : Option Addr).map (·.add ((t129 : Int).toNat * 3))) := ⟨_, rfl⟩
                obtain ⟨c28, hc28⟩ : ∃ c1, c1 = c0 - (t129 : Int).toNat := ⟨_, rfl⟩
                have hy28 : y147.length = l0.length - (t129 : Int).toNat := (by rw [Ny147.out, List.length_drop] <;> omega)
                rw [show (l0).drop (t129 : Int).toNat = y147 from Ny147.out.symm] at hr28
                replace hr28 : Kd.F k35 _ _ A28 y147.length y147 := (by rw [hA28]; exact hr28)
                rw [← hy28, ← hA28, ← hc28] at hcut28
                have HO151 := Aside0.mk (show Kd.V k35 35 _ w.heap.size _ (.slice A28 y147.length c28) y147 from Kd.V_mk (by rw [hy28, hc28]; exact Nat.sub_le_sub_right hroom28 _) hr28)
                have HC151 := Aside0.mk (show y147.length ≤ c28 from by rw [hy28, hc28]; exact Nat.sub_le_sub_right hroom28 _)
                clear hr28 hC28 hroom28 hi028 hsz28 hc28
                have KY28 := Aside0.mk hy28
                have KA28 := Aside0.mk hA28
                clear hy28 hA28
                replace q28 := eq_true q28
                refine start_ (n := 12) (S := fun w' => w'.cell? ⟨gb138, 0, none⟩ = some (.int .i64 ((rd_T35 l0 t128).f0)) ∧ w'.cell? ⟨gb138, 1, none⟩ = some (.int .i64 t137) ∧ w'.cell? ⟨gb138, 2, none⟩ = some (.bool false)) (ds := []) #[false, false, false, false, false, false, false, false, false, false, false, false] (by kernel_rfl) rfl rfl ⟨(blk_cell BK138.out 0).trans rfl, (blk_cell BK138.out 1).trans rfl, (blk_cell BK138.out 2).trans rfl⟩ (fun hHeld => ?_); refine with_tabW merge_Blocks.tab5 merge_Blocks.bits5 (fun HT_ HW_ => ?_)
                generalize w25.drew = w26 at HO0 HO136 BK138 HB HO143 HO151 hHeld ⊢
                refine pure_ (i := 0) (N := some 30) (v := ?_) (a' := ?_) #[true, false, false, false, false, false, false, false, false, false, false, false] rfl rfl (any_of HT_.out (by kernel_rfl)) (fun _ _ _ h => h) (Or.inl ⟨by rfl, ?_⟩) ?_ ?_
                rotate_left
                · intro w'
                  go_simp
                  with_reducible rfl
                rotate_left
                · simp only [Act.put, List.setIfInBounds_toArray, List.set_cons_zero, List.set_cons_succ, i64_w, i32_w]
                  rfl
                refine pure_ (i := 1) (N := some 31) (v := ?_) (a' := ?_) #[true, true, false, false, false, false, false, false, false, false, false, false] rfl rfl (any_of HT_.out (by kernel_rfl)) (fun _ _ _ h => h) (Or.inl ⟨by rfl, ?_⟩) ?_ ?_
                rotate_left
                · intro w'
                  go_simp
                  with_reducible rfl
                rotate_left
                · simp only [Act.put, List.setIfInBounds_toArray, List.set_cons_zero, List.set_cons_succ, i64_w, i32_w]
                  rfl
                refine pure_ (i := 2) (N := some 32) (v := ?_) (a' := ?_) #[true, true, true, false, false, false, false, false, false, false, false, false] rfl rfl (any_of HT_.out (by kernel_rfl)) (fun _ _ _ h => h) (Or.inl ⟨by rfl, ?_⟩) ?_ ?_
                rotate_left
                · intro w'
                  go_simp
                  with_reducible rfl
                rotate_left
                · simp only [Act.put, List.setIfInBounds_toArray, List.set_cons_zero, List.set_cons_succ, i64_w, i32_w]
                  rfl
                refine pure_ (i := 5) (N := some 35) (v := ?_) (a' := ?_) #[true, true, true, false, false, true, false, false, false, false, false, false] rfl rfl (any_of HT_.out (by kernel_rfl)) (fun _ _ _ h => h) (Or.inl ⟨by rfl, ?_⟩) ?_ ?_
                rotate_left
                · intro w'
                  go_simp
                  with_reducible rfl
                rotate_left
                · simp only [Act.put, List.setIfInBounds_toArray, List.set_cons_zero, List.set_cons_succ, i64_w, i32_w]
                  rfl
                refine pure_ (i := 6) (N := some 36) (v := ?_) (a' := ?_) #[true, true, true, false, false, true, true, false, false, false, false, false] rfl rfl (any_of HT_.out (by kernel_rfl)) (fun _ _ _ h => h) (Or.inl ⟨by rfl, ?_⟩) ?_ ?_
                rotate_left
                · intro w'
                  go_simp
                  with_reducible rfl
                rotate_left
                · simp only [Act.put, List.setIfInBounds_toArray, List.set_cons_zero, List.set_cons_succ, i64_w, i32_w]
                  rfl
                refine pure_ (i := 7) (N := some 37) (v := ?_) (a' := ?_) #[true, true, true, false, false, true, true, true, false, false, false, false] rfl rfl (any_of HT_.out (by kernel_rfl)) (fun _ _ _ h => h) (Or.inl ⟨by rfl, ?_⟩) ?_ ?_
                rotate_left
                · intro w'
                  go_simp
                  with_reducible rfl
                rotate_left
                · simp only [Act.put, List.setIfInBounds_toArray, List.set_cons_zero, List.set_cons_succ, i64_w, i32_w]
                  rfl
                refine take_ (i := 3) (N := some 33) (v := ?_) (a' := ?_) #[true, true, true, true, false, true, true, true, false, false, false, false] rfl rfl (take_ofW HT_.out HW_.out (by kernel_rfl)) (fun _ _ _ h => h) (Or.inl ⟨by rfl, ?_⟩) hHeld ?_ ?_
                rotate_left
                · rintro w' ⟨s0, s1, s2⟩
                  go_simp
                  with_reducible rfl
                rotate_left
                · simp only [Act.put, List.setIfInBounds_toArray, List.set_cons_zero, List.set_cons_succ, i64_w, i32_w]
                  rfl
                refine one_ (i := 4) (N := some 34) #[true, true, true, true, true, true, true, true, false, false, false, false] rfl rfl (one_of HT_.out (by kernel_rfl)) (by decide) (fun K hK => ?_)
                refine Kd.R_lit_step k35 _ 35 ?hg (N := 34) ?hd (xs := ([(⟨(rd_T35 l0 t128).f0, t137, false⟩ : S35)] : List (S35))) (inner := [.int .i64 ((rd_T35 l0 t128).f0), .int .i64 t137, .bool false]) (ok := fun _ => True) (okp := fun _ => True) ?hr ?hp (fun _ hk => hk) trivial (Below.refl _ _) (Nat.le_refl _) (by simp) ?_; (case hd => rfl); (case hg => rfl); (case hr => first | (go_simp; done) | (go_simp; rfl)); (case hp => exact (Reps.c3 (show Kd.M k35 _ _ _ (⟨(rd_T35 l0 t128).f0, t137, false⟩ : S35) [.int .i64 ((rd_T35 l0 t128).f0), .int .i64 t137, .bool false] from (k35_mkM _ _ _ (⟨(rd_T35 l0 t128).f0, t137, false⟩ : S35) )) (Reps.none _ _)))
                intro v145 w29 ho30 hb hg_ hnew_
                clear hg_ hnew_
                (first | rw [← Ny144.out] at ho30 | (simp only [Int.reduceToNat] at ho30; rw [← Ny144.out] at ho30))
                have n0_ := Aside0.mk (Kd.V_elder' (by (with_reducible repeat (first | apply Kd.V_alloc | apply Kd.V_drewN | apply Kd.V_drew)); exact HO0.out) (Kd.R_base ho30) hb)
                have n1_ := Aside0.mk (Kd.V_elder' (by (with_reducible repeat (first | apply Kd.V_alloc | apply Kd.V_drewN | apply Kd.V_drew)); exact HO136.out) (Kd.R_base ho30) hb)
                have n2_ := Aside0.mk (Kd.V_elder' (by (with_reducible repeat (first | apply Kd.V_alloc | apply Kd.V_drewN | apply Kd.V_drew)); exact HO143.out) (Kd.R_base ho30) hb)
                have n3_ := Aside0.mk (Kd.V_elder' (by (with_reducible repeat (first | apply Kd.V_alloc | apply Kd.V_drewN | apply Kd.V_drew)); exact HO151.out) (Kd.R_base ho30) hb)
                have n4_ := Aside0.mk (Kd.R_lower (Kd.R_newB (Kd.R_newM (M := fun k_ => (w.heap.size ≤ k_)) ho30 (below_size (by repeat (first | (with_reducible first | exact HB.out | apply below_alloc | apply pw_below_drewN | apply below_drew1 | refine below_set ?_ GE138.out) | exact HB.out))) (fun k_ h_ => h_)) (g := gb138) (o := .cells #[.int .i64 ((rd_T35 l0 t128).f0), .int .i64 t137, .bool false] 35 (0, 0)) (by (with_reducible repeat (first | refine blk_drewN ?_ _ | refine blk_drew ?_ | refine blk_alloc ?_ _)); exact BK138.out)) (below_size (by repeat (first | (with_reducible first | exact HB.out | apply below_alloc | apply pw_below_drewN | apply below_drew1 | refine below_set ?_ GE138.out) | exact HB.out))))
                have n5_ := Aside0.mk (blk_below (g := gb138) (o := .cells #[.int .i64 ((rd_T35 l0 t128).f0), .int .i64 t137, .bool false] 35 (0, 0)) (by (with_reducible repeat (first | refine blk_drewN ?_ _ | refine blk_drew ?_ | refine blk_alloc ?_ _)); exact BK138.out) hb)
                have n6_ := Aside0.mk (below_step (by repeat (first | (with_reducible first | exact HB.out | apply below_alloc | apply pw_below_drewN | apply below_drew1 | refine below_set ?_ GE138.out) | exact HB.out)) hb)
                clear HO0
                clear HO136
                clear HO143
                clear HO151
                clear BK138
                clear HB
                have HO0 := n0_
                have HO136 := n1_
                have HO143 := n2_
                have HO151 := n3_
                have HO146 := n4_
                have BK138 := n5_
                have HB := n6_
                clear n0_ n1_ n2_ n3_ n4_ n5_ n6_
                clear hb ho30
                obtain ⟨Ao31, co31, eo31⟩ := Kd.R_slice HO146.out
                (first | subst eo31 | (injection eo31 with f1_ f2_ f3_; have f4_ := f1_.symm; have f5_ := f3_.symm; clear f1_ f2_ f3_; subst f4_; subst f5_))
                refine hK.out _ _ ⟨(blk_cell BK138.out 0).trans rfl, (blk_cell BK138.out 1).trans rfl, (blk_cell BK138.out 2).trans rfl⟩ (fun hHeld => ?_)
                clear hK K
                refine norm_ (a' := ?_) ?_ ?_
                rotate_left
                · show Act.put _ (some 34) _ = _
                  simp only [Act.put, List.setIfInBounds_toArray, List.set_cons_zero, List.set_cons_succ, i64_w, i32_w]
                  rfl
                refine one_ (i := 8) (N := some 38) #[true, true, true, true, true, true, true, true, true, false, false, false] rfl rfl (one_of HT_.out (by kernel_rfl)) (by decide) (fun K hK => ?_)
                refine Kd.N_lit_step (Kd.slice 35 k35) _ 22 ?hg (N' := 38) ?hd (xs := ([y139, y144, y147] : List (List (S35)))) (inner := [.slice (some ad131) y139.length c0, .slice Ao31 y144.length co31, .slice A28 y147.length c28]) (ok := (fun k_ => (P0_ k_ ∨ w.heap.size ≤ k_) ∧ k_ ≠ gb138)) (okp := (fun k_ => (P0_ k_ ∨ w.heap.size ≤ k_) ∧ k_ ≠ gb138)) ?hr ?hp (fun _ hk => hk) ((show ∀ k_, w29.heap.size ≤ k_ → (fun k_ => (P0_ k_ ∨ w.heap.size ≤ k_) ∧ k_ ≠ gb138) k_ from fun k_ hk => ⟨(.inr (Nat.le_trans (below_size (by repeat (first | (with_reducible first | exact HB.out | apply below_alloc | apply pw_below_drewN | apply below_drew1 | refine below_set ?_ GE138.out) | exact HB.out))) hk)), Kd.freshB (g := gb138) (o := .cells #[.int .i64 ((rd_T35 l0 t128).f0), .int .i64 t137, .bool false] 35 (0, 0)) (by (with_reducible repeat (first | refine blk_drewN ?_ _ | refine blk_drew ?_ | refine blk_alloc ?_ _)); exact BK138.out) k_ hk⟩) _ (Nat.le_refl _)) (Below.refl _ _) (Nat.le_refl _) (by simp) ?_; (case hd => rfl); (case hg => rfl); (case hr => first | (go_simp; done) | (go_simp; rfl)); (case hp => exact (Reps.one (show Kd.FK (Kd.slice 35 k35) _ _ y139 [.slice (some ad131) y139.length c0] from (Kd.FK_slice_mk (Kd.V_reads' (Kd.V_mono (ok' := (fun k_ => (P0_ k_ ∨ w.heap.size ≤ k_) ∧ k_ ≠ gb138)) (HO143.out) (fun k_ hk => ⟨hk.1.1, hk.1.2⟩))).2.1 (Kd.V_F (Kd.V_mono (ok' := (fun k_ => (P0_ k_ ∨ w.heap.size ≤ k_) ∧ k_ ≠ gb138)) (HO143.out) (fun k_ hk => ⟨hk.1.1, hk.1.2⟩))))) (Reps.one (show Kd.FK (Kd.slice 35 k35) _ _ y144 [.slice Ao31 y144.length co31] from (Kd.FK_slice_mk (Kd.R_reads' (Kd.R_mono (ok' := (fun k_ => (P0_ k_ ∨ w.heap.size ≤ k_) ∧ k_ ≠ gb138)) (HO146.out) (fun k_ hk => ⟨(.inr (hk.1.1)), hk.2⟩))).2.1 (Kd.R_F (Kd.R_mono (ok' := (fun k_ => (P0_ k_ ∨ w.heap.size ≤ k_) ∧ k_ ≠ gb138)) (HO146.out) (fun k_ hk => ⟨(.inr (hk.1.1)), hk.2⟩))))) (Reps.one (show Kd.FK (Kd.slice 35 k35) _ _ y147 [.slice A28 y147.length c28] from (Kd.FK_slice_mk (Kd.V_reads' (Kd.V_mono (ok' := (fun k_ => (P0_ k_ ∨ w.heap.size ≤ k_) ∧ k_ ≠ gb138)) (HO151.out) (fun k_ hk => ⟨hk.1.1, hk.1.2⟩))).2.1 (Kd.V_F (Kd.V_mono (ok' := (fun k_ => (P0_ k_ ∨ w.heap.size ≤ k_) ∧ k_ ≠ gb138)) (HO151.out) (fun k_ hk => ⟨hk.1.1, hk.1.2⟩))))) (Reps.none _ _)))))
                intro v153 w32 ho33 hb hg_ hnew_
                clear hg_ hnew_
                (first | rw [← Ny152.out] at ho33 | (simp only [Int.reduceToNat] at ho33; rw [← Ny152.out] at ho33))
                have n0_ := Aside0.mk (Kd.V_elder' (by (with_reducible repeat (first | apply Kd.V_alloc | apply Kd.V_drewN | apply Kd.V_drew)); exact HO0.out) (Kd.N_base ho33) hb)
                have n1_ := Aside0.mk (Kd.V_elder' (by (with_reducible repeat (first | apply Kd.V_alloc | apply Kd.V_drewN | apply Kd.V_drew)); exact HO136.out) (Kd.N_base ho33) hb)
                have n2_ := Aside0.mk (Kd.V_elder' (by (with_reducible repeat (first | apply Kd.V_alloc | apply Kd.V_drewN | apply Kd.V_drew)); exact HO143.out) (Kd.N_base ho33) hb)
                have n3_ := Aside0.mk (Kd.V_elder' (by (with_reducible repeat (first | apply Kd.V_alloc | apply Kd.V_drewN | apply Kd.V_drew)); exact HO151.out) (Kd.N_base ho33) hb)
                have n4_ := Aside0.mk (Kd.N_lower ho33 (below_size (by repeat (first | (with_reducible first | exact HB.out | apply below_alloc | apply pw_below_drewN | apply below_drew1 | refine below_set ?_ GE138.out) | exact HB.out))))
                have n5_ := Aside0.mk (blk_below (g := gb138) (o := .cells #[.int .i64 ((rd_T35 l0 t128).f0), .int .i64 t137, .bool false] 35 (0, 0)) (by (with_reducible repeat (first | refine blk_drewN ?_ _ | refine blk_drew ?_ | refine blk_alloc ?_ _)); exact BK138.out) hb)
                have n6_ := Aside0.mk (below_step (by repeat (first | (with_reducible first | exact HB.out | apply below_alloc | apply pw_below_drewN | apply below_drew1 | refine below_set ?_ GE138.out) | exact HB.out)) hb)
                clear HO0
                clear HO136
                clear HO143
                clear HO151
                clear BK138
                clear HB
                clear HO146
                have HO0 := n0_
                have HO136 := n1_
                have HO143 := n2_
                have HO151 := n3_
                have HO154 := n4_
                have BK138 := n5_
                have HB := n6_
                clear n0_ n1_ n2_ n3_ n4_ n5_ n6_
                clear hb ho33
                obtain ⟨Ao34, co34, eo34⟩ := Kd.N_slice HO154.out
                (first | subst eo34 | (injection eo34 with f1_ f2_ f3_; have f4_ := f1_.symm; have f5_ := f3_.symm; clear f1_ f2_ f3_; subst f4_; subst f5_))
                refine hK.out _ _ ⟨(blk_cell BK138.out 0).trans rfl, (blk_cell BK138.out 1).trans rfl, (blk_cell BK138.out 2).trans rfl⟩ (fun hHeld => ?_)
                clear hK K
                refine norm_ (a' := ?_) ?_ ?_
                rotate_left
                · show Act.put _ (some 38) _ = _
                  simp only [Act.put, List.setIfInBounds_toArray, List.set_cons_zero, List.set_cons_succ, i64_w, i32_w]
                  rfl
                refine one_ (i := 9) (N := some 39) #[true, true, true, true, true, true, true, true, true, true, false, false] rfl rfl (one_of HT_.out (by kernel_rfl)) (by decide) (fun K hK => ?_)
                refine goes_ Try.func59 (by kernel_rfl) rfl #[.slice Ao34 y152.length co34] (by rfl) rfl rfl (by (try simp only [List.map_toArray, List.map_cons, List.map_nil]); first | done | rfl | (simp only [List.length_drop, List.length_take]; rfl)) ?_
                with_reducible refine (api_Block_59.calls k _ _ y152 t155 _ ?side1 ?side2 A15.out).mono ?_
                (case side1 => repeat (first | exact (Kd.N_reads' HO154.out).2.2 | (with_reducible refine Kd.C_alloc ?_ _) | (with_reducible refine Kd.C_drewN ?_ _) | (with_reducible refine Kd.C_drew ?_)))
                (case side2 => exact (Kd.N_reads' HO154.out).2.1)
                rintro e w35 ⟨v156, rfl, ho0, hb⟩
                refine ⟨_, rfl, ?_⟩
                have n0_ := Aside0.mk (Kd.V_elder' (by (with_reducible repeat (first | apply Kd.V_alloc | apply Kd.V_drewN | apply Kd.V_drew)); exact HO0.out) (Kd.R_base ho0) hb)
                have n1_ := Aside0.mk (Kd.V_elder' (by (with_reducible repeat (first | apply Kd.V_alloc | apply Kd.V_drewN | apply Kd.V_drew)); exact HO136.out) (Kd.R_base ho0) hb)
                have n2_ := Aside0.mk (Kd.V_elder' (by (with_reducible repeat (first | apply Kd.V_alloc | apply Kd.V_drewN | apply Kd.V_drew)); exact HO143.out) (Kd.R_base ho0) hb)
                have n3_ := Aside0.mk (Kd.V_elder' (by (with_reducible repeat (first | apply Kd.V_alloc | apply Kd.V_drewN | apply Kd.V_drew)); exact HO151.out) (Kd.R_base ho0) hb)
                have n4_ := Aside0.mk (Kd.N_elder' (by (with_reducible repeat (first | apply Kd.N_alloc | apply Kd.N_drewN | apply Kd.N_drew)); exact HO154.out) (Kd.R_base ho0) hb)
                have n5_ := Aside0.mk (Kd.R_lower (Kd.R_newB (Kd.R_newM (M := fun k_ => (w.heap.size ≤ k_)) ho0 (below_size (by repeat (first | (with_reducible first | exact HB.out | apply below_alloc | apply pw_below_drewN | apply below_drew1 | refine below_set ?_ GE138.out) | exact HB.out))) (fun k_ h_ => h_)) (g := gb138) (o := .cells #[.int .i64 ((rd_T35 l0 t128).f0), .int .i64 t137, .bool false] 35 (0, 0)) (by (with_reducible repeat (first | refine blk_drewN ?_ _ | refine blk_drew ?_ | refine blk_alloc ?_ _)); exact BK138.out)) (below_size (by repeat (first | (with_reducible first | exact HB.out | apply below_alloc | apply pw_below_drewN | apply below_drew1 | refine below_set ?_ GE138.out) | exact HB.out))))
                have n6_ := Aside0.mk (blk_below (g := gb138) (o := .cells #[.int .i64 ((rd_T35 l0 t128).f0), .int .i64 t137, .bool false] 35 (0, 0)) (by (with_reducible repeat (first | refine blk_drewN ?_ _ | refine blk_drew ?_ | refine blk_alloc ?_ _)); exact BK138.out) hb)
                have n7_ := Aside0.mk (below_step (by repeat (first | (with_reducible first | exact HB.out | apply below_alloc | apply pw_below_drewN | apply below_drew1 | refine below_set ?_ GE138.out) | exact HB.out)) hb)
                clear HO0
                clear HO136
                clear HO143
                clear HO151
                clear HO154
                clear BK138
                clear HB
                have HO0 := n0_
                have HO136 := n1_
                have HO143 := n2_
                have HO151 := n3_
                have HO154 := n4_
                have HO157 := n5_
                have BK138 := n6_
                have HB := n7_
                clear n0_ n1_ n2_ n3_ n4_ n5_ n6_ n7_
                (try clear hb)
                (try clear hb2)
                (try clear hk)
                (try clear hi)
                (try clear ho0)
                refine hK.out _ _ ⟨(blk_cell BK138.out 0).trans rfl, (blk_cell BK138.out 1).trans rfl, (blk_cell BK138.out 2).trans rfl⟩ (fun hHeld => ?_)
                clear hK K
                refine norm_ (a' := ?_) ?_ ?_
                rotate_left
                · show Act.put _ (some 39) _ = _
                  simp only [Act.put, List.setIfInBounds_toArray, List.set_cons_zero, List.set_cons_succ, i64_w, i32_w]
                  rfl
                refine pure_ (i := 10) (N := some 4) (v := ?_) (a' := ?_) #[true, true, true, true, true, true, true, true, true, true, true, false] rfl rfl (any_of HT_.out (by kernel_rfl)) (fun _ _ _ h => h) (Or.inl ⟨by rfl, ?_⟩) ?_ ?_
                rotate_left
                · intro w'
                  go_simp
                  with_reducible rfl
                rotate_left
                · simp only [Act.put, List.setIfInBounds_toArray, List.set_cons_zero, List.set_cons_succ, i64_w, i32_w]
                  rfl
                refine pure_ (i := 11) (N := some 5) (v := ?_) (a' := ?_) #[true, true, true, true, true, true, true, true, true, true, true, true] rfl rfl (any_of HT_.out (by kernel_rfl)) (fun _ _ _ h => h) (Or.inl ⟨by rfl, ?_⟩) ?_ ?_
                rotate_left
                · intro w'
                  go_simp
                  with_reducible rfl
                rotate_left
                · simp only [Act.put, List.setIfInBounds_toArray, List.set_cons_zero, List.set_cons_succ, i64_w, i32_w]
                  rfl
                refine done_ (done_of HT_.out (by kernel_rfl)) ?_
                try go_wp2
                go_ret2
                exact ⟨_, by first | rfl | (simp [errW_none, errW_some] <;> rfl) | (simp [*, errW_none, errW_some] <;> rfl), by (with_reducible repeat (first | apply Kd.R_alloc | apply Kd.R_drewN | apply Kd.R_drew)); exact Kd.R_mono HO157.out (fun _ hk => hk.1.1), by repeat (first | (with_reducible first | exact HB.out | apply below_alloc | apply pw_below_drewN | apply below_drew1 | refine below_set ?_ GE138.out) | exact HB.out)⟩
              · rw [if_neg c13] at H
                exact absurd H (by simp)
            · rw [if_neg c12] at H
              exact absurd H (by simp)
          · rw [if_neg c9] at H
            exact absurd H (by simp)
        · rw [if_neg c8] at H
          exact absurd H (by simp)
      · rw [if_neg c6] at H
        exact absurd H (by simp)
    · rw [if_neg c5] at H
      exact absurd H (by simp)
  · replace c4 := Bool.eq_false_iff.mpr c4
    subst c4
    have H1 : (some (([] : List (S35)), false)) = some (r1, r2) := by rw [if_neg (show ¬ (false = true) by decide)] at H; exact H
    clear H
    have H := H1
    clear H1
    simp only [Option.some.injEq, Prod.mk.injEq] at H
    obtain ⟨rfl, rfl⟩ := H
    go_enter Try.func16, Try.ntmps16
    go_wp2_with (first | ((with_reducible refine gate_callee (f := 57) rfl ?_); refine goesL_ (some 13) rfl rfl Try.func57 (by kernel_rfl) rfl #[.slice A0 l0.length c0, .int .i64 a1] rfl (by (try simp only [List.map_toArray, List.map_cons, List.map_nil]); first | done | rfl | (simp only [List.length_drop, List.length_take]; rfl)) ?_; (with_reducible refine (merge_around.calls k _ _ l0 a1 t128 t129 false _ ?side1 ?side2 A3.out).mono ?_); (case side1 => repeat (first | exact (Kd.V_reads' HO0.out).2.2 | (with_reducible refine Kd.C_alloc ?_ _) | (with_reducible refine Kd.C_drewN ?_ _) | (with_reducible refine Kd.C_drew ?_))); (case side2 => exact (Kd.V_reads' HO0.out).2.1); rintro e w36 ⟨rfl, hb⟩; refine ⟨_, rfl, ?_⟩; have n0_ := Aside0.mk (Kd.V_below (by (with_reducible repeat (first | apply Kd.V_alloc | apply Kd.V_drewN | apply Kd.V_drew)); exact HO0.out) hb); have n1_ := Aside0.mk (below_step (by repeat (first | (with_reducible first | exact HB.out | apply below_alloc | apply pw_below_drewN | apply below_drew1) | exact HB.out)) hb); clear HO0; clear HB; have HO0 := n0_; have HB := n1_; clear n0_ n1_; (try clear hb); (try clear hb2); (try clear hk); (try clear hi)))
    go_ret2
    exact ⟨_, by first | rfl | (simp [errW_none, errW_some] <;> rfl) | (simp [*, errW_none, errW_some] <;> rfl), by first | exact Kd.R_nil _ _ _ _ _ | exact Kd.N_nil _ _ _ _ _ | exact Kd.V_nil _ _ _ _ _ | exact Kd.Q_nil _ _ _ _ _ | exact Kd.S_nil _ _ _ _ _, by repeat (first | (with_reducible first | exact HB.out | apply below_alloc | apply pw_below_drewN | apply below_drew1) | exact HB.out)⟩

/-! ### block_Word: function 61 -/
def block_Word.f (a0 : Int) (a1 : Bool) : Option (Int) := (block_May.f a0).bind fun t158 => (if t158 = true then (if a1 = true then (some (Go.bits .or .u64 (IntKind.u64.wrap ((IntKind.u64.wrap (a0)) * 2)) 1)) else (some (IntKind.u64.wrap ((IntKind.u64.wrap (a0)) * 2)))) else (some 0))
set_option maxHeartbeats 8000000 in
set_option maxRecDepth 100000 in
theorem block_Word.calls (a0 : Int) (a1 : Bool) (r : Int) (w : World) (h : block_Word.f a0 a1 = some r) :
    Calls Try.prog 61 #[.int .i64 a0, .bool a1] w fun e w' => e = .returned (.int .u64 r) ∧ Drawn0 w w' := by
  have H : ((block_May.f a0).bind fun t158 => (if t158 = true then (if a1 = true then (some (Go.bits .or .u64 (IntKind.u64.wrap ((IntKind.u64.wrap (a0)) * 2)) 1)) else (some (IntKind.u64.wrap ((IntKind.u64.wrap (a0)) * 2)))) else (some 0))) = some r := h
  clear h
  replace H := Option.bind_eq_some_iff.mp H
  obtain ⟨t158, A30, H⟩ := H
  replace H : (if t158 = true then (if a1 = true then (some (Go.bits .or .u64 (IntKind.u64.wrap ((IntKind.u64.wrap (a0)) * 2)) 1)) else (some (IntKind.u64.wrap ((IntKind.u64.wrap (a0)) * 2)))) else (some 0)) = some r := H
  have A3 := Aside0.mk A30
  clear A30
  by_cases c4 : t158 = true
  · subst c4
    have H1 : (if a1 = true then (some (Go.bits .or .u64 (IntKind.u64.wrap ((IntKind.u64.wrap (a0)) * 2)) 1)) else (some (IntKind.u64.wrap ((IntKind.u64.wrap (a0)) * 2)))) = some r := by rw [if_pos rfl] at H; exact H
    clear H
    have H := H1
    clear H1
    by_cases c5 : a1 = true
    · subst c5
      have H1 : (some (Go.bits .or .u64 (IntKind.u64.wrap ((IntKind.u64.wrap (a0)) * 2)) 1)) = some r := by rw [if_pos rfl] at H; exact H
      clear H
      have H := H1
      clear H1
      obtain rfl := Option.some.inj H
      go_enter Try.func61, Try.ntmps61
      go_wp2_with (first | ((with_reducible refine gate_callee (f := 68) rfl ?_); refine goesL_ (some 7) rfl rfl Try.func68 (by kernel_rfl) rfl #[.int .i64 a0] rfl (by (try simp only [List.map_toArray, List.map_cons, List.map_nil]); first | done | rfl | (simp only [List.length_drop, List.length_take]; rfl)) ?_; (with_reducible refine (block_May.calls a0 true _ A3.out).mono ?_); rintro e w' ⟨rfl, ⟨nd, rfl⟩⟩; refine ⟨_, rfl, ?_⟩))
      go_ret
      exact ⟨by first | rfl | (simp; done) | (simp [*]; done), by repeat (first | exact Drawn0.refl _ | apply Drawn0.step)⟩
    · replace c5 := Bool.eq_false_iff.mpr c5
      subst c5
      have H1 : (some (IntKind.u64.wrap ((IntKind.u64.wrap (a0)) * 2))) = some r := by rw [if_neg (show ¬ (false = true) by decide)] at H; exact H
      clear H
      have H := H1
      clear H1
      obtain rfl := Option.some.inj H
      go_enter Try.func61, Try.ntmps61
      go_wp2_with (first | ((with_reducible refine gate_callee (f := 68) rfl ?_); refine goesL_ (some 7) rfl rfl Try.func68 (by kernel_rfl) rfl #[.int .i64 a0] rfl (by (try simp only [List.map_toArray, List.map_cons, List.map_nil]); first | done | rfl | (simp only [List.length_drop, List.length_take]; rfl)) ?_; (with_reducible refine (block_May.calls a0 true _ A3.out).mono ?_); rintro e w' ⟨rfl, ⟨nd, rfl⟩⟩; refine ⟨_, rfl, ?_⟩))
      go_ret
      exact ⟨by first | rfl | (simp; done) | (simp [*]; done), by repeat (first | exact Drawn0.refl _ | apply Drawn0.step)⟩
  · replace c4 := Bool.eq_false_iff.mpr c4
    subst c4
    have H1 : (some 0) = some r := by rw [if_neg (show ¬ (false = true) by decide)] at H; exact H
    clear H
    have H := H1
    clear H1
    obtain rfl := Option.some.inj H
    go_enter Try.func61, Try.ntmps61
    go_wp2_with (first | ((with_reducible refine gate_callee (f := 68) rfl ?_); refine goesL_ (some 7) rfl rfl Try.func68 (by kernel_rfl) rfl #[.int .i64 a0] rfl (by (try simp only [List.map_toArray, List.map_cons, List.map_nil]); first | done | rfl | (simp only [List.length_drop, List.length_take]; rfl)) ?_; (with_reducible refine (block_May.calls a0 false _ A3.out).mono ?_); rintro e w' ⟨rfl, ⟨nd, rfl⟩⟩; refine ⟨_, rfl, ?_⟩))
    go_ret
    exact ⟨by first | rfl | (simp; done) | (simp [*]; done), by repeat (first | exact Drawn0.refl _ | apply Drawn0.step)⟩

end Go.Proofs.Ytglekonhdjploaa.XMergeBack
