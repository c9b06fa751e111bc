-- Laid by this session's own printer (wip/xprint.py): each Go function that the law reaches as a plain Lean function, and that the call comes to it.
import Derived.Test.YtglekonhdjploaaXMergeBackx0
import Derived.Test.YtglekonhdjploaaXMergeBackx1
import Derived.Test.YtglekonhdjploaaXMergeBackx2
import Derived.Test.YtglekonhdjploaaXMergeBackx3
import Derived.Test.YtglekonhdjploaaXMergeBackx4
import Derived.Test.YtglekonhdjploaaXMergeBackx5
namespace Go.Proofs.Ytglekonhdjploaa.XMergeBack
open Go.RowKit Go.Proofs.YtglekonhdjploaaW.PrintWords Go.Proofs.YtglekonhdjploaaW.PrintLast Go.Proofs.YtglekonhdjploaaW.PrintMore
attribute [local go_sem] max2_int min2_int max_two min_two max_three min_three max_four min_four   -- for this text's walks alone
set_option linter.unusedVariables false
set_option linter.unusedSimpArgs false

attribute [local go_sem high] eqA30 eqA35
/-! ### merge_Edit: function 18 -/
def merge_Edit.f (k : Nat) (l0 : List (S35)) (a1 : Int) : Option (Int × Int × Bool) := (merge_around.f k l0 a1).bind fun bt160 => (if bt160.2.2 = true then (if 0 ≤ bt160.1 then (if bt160.1 < (l0.length : Int) then (if bt160.1 ≤ bt160.2.1 then (if bt160.2.1 ≤ (l0.length : Int) then ((merge_words.f k ((l0.take (bt160.2.1 : Int).toNat).drop (bt160.1 : Int).toNat)).bind fun t168 => ((block_Word.f t168 false).bind fun t169 => (some ((rd_T35 l0 bt160.1).f0, t169, true)))) else (none)) else (none)) else (none)) else (none)) else (some (0, 0, false)))
theorem merge_Edit.mono : ∀ a0 a1 k, LeO (merge_Edit.f k a0 a1) (merge_Edit.f (k + 1) a0 a1) := by
  intro a0 a1 k
  unfold merge_Edit.f
  repeat' first
      | (with_reducible exact merge_around.mono _ _ _)
      | (with_reducible exact merge_words.mono _ _)
      | (with_reducible exact LeO.refl _)
      | (with_reducible exact LeO.none _)
      | (with_reducible refine LeO.ite ?_ ?_)
      | (with_reducible refine LeO.bind ?_ (fun _ => ?_))
      | exact merge_around.mono _ _ _
      | exact merge_words.mono _ _
      | exact LeO.none _
      | refine LeO.ite ?_ ?_
      | refine LeO.bind ?_ (fun _ => ?_)
def merge_Edit.T4 : Bool × List (List Nat × List Nat) := (true, [([], []), ([], []), ([0, 1], [0, 1]), ([2], [2]), ([3], [3]), ([], []), ([], []), ([], []), ([5, 6, 7], [5, 6, 7]), ([8], [8]), ([9, 9], [9]), ([4, 10], [4, 10]), ([11, 10, 0, 1, 2, 3, 4, 5, 6, 7, 8, 9, 10, 11], [11]), ([12, 0, 1, 2, 3, 4, 5, 6, 7, 8, 9, 10, 11, 12], [])])
def merge_Edit.B4 : List Nat := [0, 0, 3, 7, 15, 0, 0, 0, 224, 480, 992, 2047, 4095, 8191]
theorem merge_Edit.tab4 : rtab .any (opsOf Try.f18 4) = merge_Edit.T4 := by kernel_rfl
theorem merge_Edit.bits4 : waitsOk merge_Edit.T4.2 merge_Edit.B4 = true := by kernel_rfl
set_option maxHeartbeats 8000000 in
set_option maxRecDepth 100000 in
theorem merge_Edit.calls (k : Nat) (A0 : Option Addr) (c0 : Nat) (l0 : List (S35)) (a1 : Int) (r1 : Int) (r2 : Int) (r3 : Bool) (w : World) (hr0 : Kd.C k35 w A0 l0.length l0) (hc0 : l0.length ≤ c0) (h : merge_Edit.f k l0 a1 = some (r1, r2, r3)) :
    Calls Try.prog 18 #[.slice A0 l0.length c0, .int .i64 a1] w fun e w' => e = .returned (.tuple #[.agg #[.int .i64 r1, .int .u64 r2], .bool r3]) ∧ Below w.heap.size w w' := by
  have hu30 := Try.underlying30
  have HR0 := Aside0.mk hr0
  have HC0 := Aside0.mk hc0
  clear hr0 hc0
  have HB := Aside0.mk (Below.refl w.heap.size w)
  have H : ((merge_around.f k l0 a1).bind fun bt160 => (if bt160.2.2 = true then (if 0 ≤ bt160.1 then (if bt160.1 < (l0.length : Int) then (if bt160.1 ≤ bt160.2.1 then (if bt160.2.1 ≤ (l0.length : Int) then ((merge_words.f k ((l0.take (bt160.2.1 : Int).toNat).drop (bt160.1 : Int).toNat)).bind fun t168 => ((block_Word.f t168 false).bind fun t169 => (some ((rd_T35 l0 bt160.1).f0, t169, true)))) else (none)) else (none)) else (none)) else (none)) else (some (0, 0, false)))) = some (r1, r2, r3) := h
  clear h
  replace H := Option.bind_eq_some_iff.mp H
  obtain ⟨⟨t160, t161, t162⟩, A30, H⟩ := H
  replace H : (if t162 = true then (if 0 ≤ t160 then (if t160 < (l0.length : Int) then (if t160 ≤ t161 then (if t161 ≤ (l0.length : Int) then ((merge_words.f k ((l0.take (t161 : Int).toNat).drop (t160 : Int).toNat)).bind fun t168 => ((block_Word.f t168 false).bind fun t169 => (some ((rd_T35 l0 t160).f0, t169, true)))) else (none)) else (none)) else (none)) else (none)) else (some (0, 0, false))) = some (r1, r2, r3) := H
  have A3 := Aside0.mk A30
  clear A30
  by_cases c4 : t162 = true
  · subst c4
    have H1 : (if 0 ≤ t160 then (if t160 < (l0.length : Int) then (if t160 ≤ t161 then (if t161 ≤ (l0.length : Int) then ((merge_words.f k ((l0.take (t161 : Int).toNat).drop (t160 : Int).toNat)).bind fun t168 => ((block_Word.f t168 false).bind fun t169 => (some ((rd_T35 l0 t160).f0, t169, true)))) else (none)) else (none)) else (none)) else (none)) = some (r1, r2, r3) := by rw [if_pos rfl] at H; exact H
    clear H
    have H := H1
    clear H1
    by_cases c5 : 0 ≤ t160
    · rw [if_pos c5] at H
      have c5b0 : decide (0 ≤ t160) = true := decide_eq_true c5
      clear c5
      by_cases c6 : t160 < (l0.length : Int)
      · rw [if_pos c6] at H
        have c6b0 : decide (t160 < (l0.length : Int)) = true := decide_eq_true c6
        clear c6
        have c7b0 := eq_true (of_decide_eq_true (by first | (with_reducible assumption) | assumption) : 0 ≤ t160)
        by_cases c8 : t160 ≤ t161
        · rw [if_pos c8] at H
          have c8b0 := eq_true c8
          have c8b1 : decide (t160 ≤ t161) = true := decide_eq_true c8
          clear c8
          by_cases c9 : t161 ≤ (l0.length : Int)
          · rw [if_pos c9] at H
            have c9b0 := eq_true c9
            have c9b1 : decide (t161 ≤ (l0.length : Int)) = true := decide_eq_true c9
            clear c9
            obtain ⟨y164, hy164⟩ : ∃ y_ : List (S35), y_ = ((l0.take (t161 : Int).toNat).drop (t160 : Int).toNat) := ⟨_, rfl⟩
            replace H : ((merge_words.f k y164).bind fun t168 => ((block_Word.f t168 false).bind fun t169 => (some ((rd_T35 l0 t160).f0, t169, true)))) = some (r1, r2, r3) := by first | (rw [hy164]; with_reducible exact H) | (have H2_ := (Option.bind_some _ _).symm.trans H; rw [hy164]; with_reducible exact H2_) | (have H2_ := (Option.bind_some _ _).symm.trans H; with_reducible exact H2_) | with_reducible exact H | (rw [hy164]; exact H) | exact H
            have Ny164 := Aside0.mk hy164
            clear hy164
            replace H := Option.bind_eq_some_iff.mp H
            obtain ⟨t168, A100, H⟩ := H
            replace H : ((block_Word.f t168 false).bind fun t169 => (some ((rd_T35 l0 t160).f0, t169, true))) = some (r1, r2, r3) := H
            have A10 := Aside0.mk A100
            clear A100
            replace H := Option.bind_eq_some_iff.mp H
            obtain ⟨t169, A110, H⟩ := H
            replace H : (some ((rd_T35 l0 t160).f0, t169, true)) = some (r1, r2, r3) := H
            have A11 := Aside0.mk A110
            clear A110
            simp only [Option.some.injEq, Prod.mk.injEq] at H
            obtain ⟨rfl, rfl, rfl⟩ := H
            go_enter Try.func18, Try.ntmps18
            try go_wp2_with (first | ((with_reducible refine gate_dst (N := 4) rfl ?_); refine box_event ?hg (N := 4) ?hd (cs := #[.int .i64 0, .int .u64 0]) (t := 30) ?hr ?_; (case hd => rfl); (case hg => rfl); (case hr => first | (go_simp; done) | (go_simp; rfl)); intro gb159 hg w12 hbox hb; have n0_ := Aside0.mk (below_step (by repeat (first | (with_reducible first | exact HB.out | apply below_alloc | apply pw_below_drewN | apply below_drew1) | exact HB.out)) hb); have n1_ := Aside0.mk (hbox); have n2_ := Aside0.mk ((by rw [hg]; exact (below_size (by repeat (first | (with_reducible first | exact HB.out | apply below_alloc | apply pw_below_drewN | apply below_drew1) | exact HB.out))) : w.heap.size ≤ gb159)); have n3_ := Aside0.mk ((by rw [hg]; exact (below_size (by repeat (first | (with_reducible first | exact HB.out | apply below_alloc | apply pw_below_drewN | apply below_drew1) | exact HB.out))) : w.heap.size ≤ gb159)); clear HB; have HB := n0_; have BK159 := n1_; have GW159 := n2_; have GE159 := n3_; clear n0_ n1_ n2_ n3_; clear hb hbox hg) | ((with_reducible refine gate_callee (f := 57) rfl ?_); refine goesL_ (some 12) rfl rfl Try.func57 (by kernel_rfl) rfl #[.slice A0 l0.length c0, .int .i64 a1] rfl (by (try simp only [List.map_toArray, List.map_cons, List.map_nil]); first | done | rfl | (simp only [List.length_drop, List.length_take]; rfl)) ?_; (with_reducible refine (merge_around.calls k _ _ l0 a1 t160 t161 true _ ?side1 ?side2 A3.out).mono ?_); (case side1 => repeat (first | exact (Kd.C_below HR0.out HB.out) | (with_reducible refine Kd.C_alloc ?_ _) | (with_reducible refine Kd.C_drewN ?_ _) | (with_reducible refine Kd.C_drew ?_))); (case side2 => exact HC0.out); rintro e w13 ⟨rfl, hb⟩; refine ⟨_, rfl, ?_⟩; have n0_ := Aside0.mk (blk_below (g := gb159) (o := .cells #[.int .i64 0, .int .u64 0] 30 (0, 0)) (by (with_reducible repeat (first | refine blk_drewN ?_ _ | refine blk_drew ?_ | refine blk_alloc ?_ _)); exact BK159.out) hb); have n1_ := Aside0.mk (below_step (by repeat (first | (with_reducible first | exact HB.out | apply below_alloc | apply pw_below_drewN | apply below_drew1 | refine below_set ?_ GE159.out) | exact HB.out)) hb); clear BK159; clear HB; have BK159 := n0_; have HB := n1_; clear n0_ n1_; (try clear hb); (try clear hb2); (try clear hk); (try clear hi)))
            have n0_ := Aside0.mk (blk_drew BK159.out)
            have n1_ := Aside0.mk (below_drew1 HB.out)
            clear BK159
            clear HB
            have BK159 := n0_
            have HB := n1_
            clear n0_ n1_
            have p163 : 0 ≤ (t160 : Int) := of_decide_eq_true (by first | (with_reducible assumption) | assumption)
            have q163 : t160 < (l0.length : Int) := of_decide_eq_true (by first | (with_reducible assumption) | assumption)
            obtain ⟨ad163, e163, hx163_0, hx163_1, hx163_2⟩ := at_T35 HR0.out t160 p163 q163
            have hw163_2 := hx163_2
            have hw163_1 := hx163_1
            have hw163_0 := hx163_0
            cases e163
            replace hx163_0 := (HB.out.cell (World.block_lt_of_cell? w _ hx163_0)).trans hx163_0
            replace hx163_1 := (HB.out.cell (World.block_lt_of_cell? w _ hx163_1)).trans hx163_1
            replace hx163_2 := (HB.out.cell (World.block_lt_of_cell? w _ hx163_2)).trans hx163_2
            replace p163 := eq_true p163
            replace q163 := eq_true q163
            have q15 : (t161 : Int) ≤ ((l0.length : Int) : Int) := of_decide_eq_true (by first | (with_reducible assumption) | assumption)
            obtain ⟨i015, hi015, _, hsz15, _⟩ := info_parts info35
            have hroom15 : l0.length ≤ c0 := HC0.out
            have hC15 : Kd.C k35 _ (some ad163) l0.length l0 := HR0.out
            have ql15 : (t160 : Int) ≤ (t161 : Int) := of_decide_eq_true (by first | (with_reducible assumption) | assumption)
            have q015 : (0 : Int) ≤ (t160 : Int) := of_decide_eq_true (by first | (with_reducible assumption) | assumption)
            have hcut15 := cut_mid (P := Try.prog) 22 35 .i64 .i64 Try.underlying22 hi015 3 hsz15 (some ad163) l0.length c0 t160 t161 q015 ql15 q15 hroom15
            have hr15 := Kd.C_mid (lo := (t160 : Int).toNat) (hi := (t161 : Int).toNat) (c := c0) hC15 (by omega) (by omega) hroom15
            obtain ⟨A15, hA15⟩ : ∃ A1, A1 = (if c0 = (t160 : Int).toNat then (some ad163) else ((some ad163) : Option Addr).map (·.add ((t160 : Int).toNat * 3))) := ⟨_, rfl⟩
            obtain ⟨c15, hc15⟩ : ∃ c1, c1 = c0 - (t160 : Int).toNat := ⟨_, rfl⟩
            have hy15 : y164.length = (t161 : Int).toNat - (t160 : Int).toNat := (by rw [Ny164.out, List.length_drop, List.length_take] <;> omega)
            rw [show ((l0).take (t161 : Int).toNat).drop (t160 : Int).toNat = y164 from Ny164.out.symm] at hr15
            replace hr15 : Kd.C k35 _ A15 y164.length y164 := (by rw [hA15]; exact hr15)
            rw [← hy15, ← hA15, ← hc15] at hcut15
            have HR167 := Aside0.mk hr15
            have HC167 := Aside0.mk (show y164.length ≤ c15 from by rw [hy15, hc15]; exact Nat.sub_le_sub_right (Nat.le_trans (by omega) hroom15) _)
            clear hr15 hC15 hroom15 hi015 hsz15 hc15
            have KY15 := Aside0.mk hy15
            have KA15 := Aside0.mk hA15
            clear hy15 hA15
            replace q15 := eq_true q15
            refine start_ (n := 14) (S := fun w' => w'.cell? (ad163.add ((t160).toNat * 3)) = some (.int .i64 ((rd_T35 l0 t160).f0)) ∧ w'.cell? ⟨(ad163.add ((t160).toNat * 3)).block, (ad163.add ((t160).toNat * 3)).off + 1, none⟩ = some (.int .i64 ((rd_T35 l0 t160).f1)) ∧ w'.cell? ⟨(ad163.add ((t160).toNat * 3)).block, (ad163.add ((t160).toNat * 3)).off + 2, none⟩ = some (.bool ((rd_T35 l0 t160).f2))) (ds := []) #[false, false, false, false, false, false, false, false, false, false, false, false, false, false] (by kernel_rfl) rfl rfl ⟨((HB.out.cell (World.block_lt_of_cell? w _ hw163_0)).trans hw163_0), ((HB.out.cell (World.block_lt_of_cell? w _ hw163_1)).trans hw163_1), ((HB.out.cell (World.block_lt_of_cell? w _ hw163_2)).trans hw163_2)⟩ (fun hHeld => ?_); refine with_tabW merge_Edit.tab4 merge_Edit.bits4 (fun HT_ HW_ => ?_)
            generalize w13.drew = w14 at BK159 HB HR167 hx163_0 hx163_1 hx163_2 hHeld ⊢
            refine pure_ (i := 0) (N := some 19) (v := ?_) (a' := ?_) #[true, false, false, false, false, false, false, false, false, false, false, false, false, false] rfl rfl (any_of HT_.out (by kernel_rfl)) (fun _ _ _ h => h) (Or.inl ⟨by rfl, ?_⟩) ?_ ?_
            rotate_left
            · intro w'
              go_simp
              with_reducible rfl
            rotate_left
            · simp only [Act.put, List.setIfInBounds_toArray, List.set_cons_zero, List.set_cons_succ, i64_w, i32_w]
              rfl
            refine pure_ (i := 1) (N := some 20) (v := ?_) (a' := ?_) #[true, true, false, false, false, false, false, false, false, false, false, false, false, false] rfl rfl (any_of HT_.out (by kernel_rfl)) (fun _ _ _ h => h) (Or.inl ⟨by rfl, ?_⟩) ?_ ?_
            rotate_left
            · intro w'
              go_simp
              with_reducible rfl
            rotate_left
            · simp only [Act.put, List.setIfInBounds_toArray, List.set_cons_zero, List.set_cons_succ, i64_w, i32_w]
              rfl
            refine pure_ (i := 2) (N := some 21) (v := ?_) (a' := ?_) #[true, true, true, false, false, false, false, false, false, false, false, false, false, false] rfl rfl (any_of HT_.out (by kernel_rfl)) (fun _ _ _ h => h) (Or.inl ⟨by rfl, ?_⟩) ?_ ?_
            rotate_left
            · intro w'
              go_simp
              with_reducible rfl
            rotate_left
            · simp only [Act.put, List.setIfInBounds_toArray, List.set_cons_zero, List.set_cons_succ, i64_w, i32_w]
              rfl
            refine pure_ (i := 3) (N := some 22) (v := ?_) (a' := ?_) #[true, true, true, true, false, false, false, false, false, false, false, false, false, false] rfl rfl (any_of HT_.out (by kernel_rfl)) (fun _ _ _ h => h) (Or.inl ⟨by rfl, ?_⟩) ?_ ?_
            rotate_left
            · intro w'
              go_simp
              with_reducible rfl
            rotate_left
            · simp only [Act.put, List.setIfInBounds_toArray, List.set_cons_zero, List.set_cons_succ, i64_w, i32_w]
              rfl
            refine pure_ (i := 5) (N := some 24) (v := ?_) (a' := ?_) #[true, true, true, true, false, true, false, false, false, false, false, false, false, false] rfl rfl (any_of HT_.out (by kernel_rfl)) (fun _ _ _ h => h) (Or.inl ⟨by rfl, ?_⟩) ?_ ?_
            rotate_left
            · intro w'
              go_simp
              with_reducible rfl
            rotate_left
            · simp only [Act.put, List.setIfInBounds_toArray, List.set_cons_zero, List.set_cons_succ, i64_w, i32_w]
              rfl
            refine pure_ (i := 6) (N := some 25) (v := ?_) (a' := ?_) #[true, true, true, true, false, true, true, false, false, false, false, false, false, false] rfl rfl (any_of HT_.out (by kernel_rfl)) (fun _ _ _ h => h) (Or.inl ⟨by rfl, ?_⟩) ?_ ?_
            rotate_left
            · intro w'
              go_simp
              with_reducible rfl
            rotate_left
            · simp only [Act.put, List.setIfInBounds_toArray, List.set_cons_zero, List.set_cons_succ, i64_w, i32_w]
              rfl
            refine pure_ (i := 7) (N := some 26) (v := ?_) (a' := ?_) #[true, true, true, true, false, true, true, true, false, false, false, false, false, false] rfl rfl (any_of HT_.out (by kernel_rfl)) (fun _ _ _ h => h) (Or.inl ⟨by rfl, ?_⟩) ?_ ?_
            rotate_left
            · intro w'
              go_simp
              with_reducible rfl
            rotate_left
            · simp only [Act.put, List.setIfInBounds_toArray, List.set_cons_zero, List.set_cons_succ, i64_w, i32_w]
              rfl
            refine pure_ (i := 8) (N := some 27) (v := ?_) (a' := ?_) #[true, true, true, true, false, true, true, true, true, false, false, false, false, false] rfl rfl (any_of HT_.out (by kernel_rfl)) (fun _ _ _ h => h) (Or.inl ⟨by rfl, ?_⟩) ?_ ?_
            rotate_left
            · intro w'
              go_simp
              with_reducible rfl
            rotate_left
            · simp only [Act.put, List.setIfInBounds_toArray, List.set_cons_zero, List.set_cons_succ, i64_w, i32_w]
              rfl
            refine take_ (i := 4) (N := some 23) (v := ?_) (a' := ?_) #[true, true, true, true, true, true, true, true, true, false, false, false, false, false] rfl rfl (take_ofW HT_.out HW_.out (by kernel_rfl)) (fun _ _ _ h => h) (Or.inl ⟨by rfl, ?_⟩) hHeld ?_ ?_
            rotate_left
            · rintro w' ⟨s0, s1, s2⟩
              go_simp
              with_reducible rfl
            rotate_left
            · simp only [Act.put, List.setIfInBounds_toArray, List.set_cons_zero, List.set_cons_succ, i64_w, i32_w]
              rfl
            refine one_ (i := 9) (N := some 28) #[true, true, true, true, true, true, true, true, true, true, false, false, false, false] rfl rfl (one_of HT_.out (by kernel_rfl)) (by decide) (fun K hK => ?_)
            refine goes_ Try.func58 (by kernel_rfl) rfl #[.slice A15 y164.length c15] (by rfl) rfl rfl (by (try simp only [List.map_toArray, List.map_cons, List.map_nil]); first | done | rfl | (simp only [List.length_drop, List.length_take]; rfl)) ?_
            with_reducible refine (merge_words.calls k _ _ y164 t168 _ ?side1 ?side2 A10.out).mono ?_
            (case side1 => repeat (first | exact (Kd.C_below HR167.out HB.out) | (with_reducible refine Kd.C_alloc ?_ _) | (with_reducible refine Kd.C_drewN ?_ _) | (with_reducible refine Kd.C_drew ?_)))
            (case side2 => exact HC167.out)
            rintro e w16 ⟨rfl, hb⟩
            refine ⟨_, rfl, ?_⟩
            have n0_ := Aside0.mk (blk_below (g := gb159) (o := .cells #[.int .i64 0, .int .u64 0] 30 (0, 0)) (by (with_reducible repeat (first | refine blk_drewN ?_ _ | refine blk_drew ?_ | refine blk_alloc ?_ _)); exact BK159.out) hb)
            have n1_ := Aside0.mk (below_step (by repeat (first | (with_reducible first | exact HB.out | apply below_alloc | apply pw_below_drewN | apply below_drew1 | refine below_set ?_ GE159.out) | exact HB.out)) hb)
            clear BK159
            clear HB
            have BK159 := n0_
            have HB := n1_
            clear n0_ n1_
            (try clear hb)
            (try clear hb2)
            (try clear hk)
            (try clear hi)
            refine hK.out _ _ ⟨((HB.out.cell (World.block_lt_of_cell? w _ hw163_0)).trans hw163_0), ((HB.out.cell (World.block_lt_of_cell? w _ hw163_1)).trans hw163_1), ((HB.out.cell (World.block_lt_of_cell? w _ hw163_2)).trans hw163_2)⟩ (fun hHeld => ?_)
            clear hK K
            refine norm_ (a' := ?_) ?_ ?_
            rotate_left
            · show Act.put _ (some 28) _ = _
              simp only [Act.put, List.setIfInBounds_toArray, List.set_cons_zero, List.set_cons_succ, i64_w, i32_w]
              rfl
            refine one_ (i := 10) (N := some 29) #[true, true, true, true, true, true, true, true, true, true, true, false, false, false] rfl rfl (one_of HT_.out (by kernel_rfl)) (by decide) (fun K hK => ?_)
            refine goes_ Try.func61 (by kernel_rfl) rfl #[.int .i64 t168, .bool false] (by rfl) rfl rfl (by (try simp only [List.map_toArray, List.map_cons, List.map_nil]); first | done | rfl | (simp only [List.length_drop, List.length_take]; rfl)) ?_
            with_reducible refine (block_Word.calls t168 false t169 _ A11.out).mono ?_
            rintro e w' ⟨rfl, ⟨nd, rfl⟩⟩
            refine ⟨_, rfl, ?_⟩
            refine hK.out _ _ ⟨((HB.out.cell (World.block_lt_of_cell? w _ hw163_0)).trans hw163_0), ((HB.out.cell (World.block_lt_of_cell? w _ hw163_1)).trans hw163_1), ((HB.out.cell (World.block_lt_of_cell? w _ hw163_2)).trans hw163_2)⟩ (fun hHeld => ?_)
            clear hK K
            refine norm_ (a' := ?_) ?_ ?_
            rotate_left
            · show Act.put _ (some 29) _ = _
              simp only [Act.put, List.setIfInBounds_toArray, List.set_cons_zero, List.set_cons_succ, i64_w, i32_w]
              rfl
            refine pure_ (i := 11) (N := some 30) (v := ?_) (a' := ?_) #[true, true, true, true, true, true, true, true, true, true, true, true, false, false] rfl rfl (any_of HT_.out (by kernel_rfl)) (fun _ _ _ h => h) (Or.inl ⟨by rfl, ?_⟩) ?_ ?_
            rotate_left
            · intro w'
              go_simp
              with_reducible rfl
            rotate_left
            · simp only [Act.put, List.setIfInBounds_toArray, List.set_cons_zero, List.set_cons_succ, i64_w, i32_w]
              rfl
            refine one_ (i := 12) (N := none) #[true, true, true, true, true, true, true, true, true, true, true, true, true, false] rfl rfl (one_of HT_.out (by kernel_rfl)) (by decide) (fun K hK => ?_)
            have hs17 : w16.cell? ⟨gb159, 0, none⟩ = some (.int .i64 0) := (blk_cell BK159.out 0).trans rfl
            have hfs17 := blk_frozen BK159.out 0
            have hs18 : w16.cell? ⟨gb159, 1, none⟩ = some (.int .u64 0) := (blk_cell BK159.out 1).trans rfl
            have hfs18 := blk_frozen BK159.out 1
            refine skip_ (w1 := ?_) (by rfl) rfl ?_ ?_
            rotate_left
            · go_simp
              rfl
            refine hK.out _ _ ⟨((cell_far (p := ⟨gb159, _, none⟩) (by first | exact Nat.ne_of_lt (Nat.lt_of_lt_of_le (by have := World.block_lt_of_cell? _ _ hw163_0; first | rwa [add_block] at this | exact this) GW159.out) | (rw [add_block]; exact Nat.ne_of_lt (Nat.lt_of_lt_of_le (by have := World.block_lt_of_cell? _ _ hw163_0; first | rwa [add_block] at this | exact this) GW159.out)) | (show (Addr.add _ _).block ≠ _; rw [add_block]; exact Nat.ne_of_lt (Nat.lt_of_lt_of_le (by have := World.block_lt_of_cell? _ _ hw163_0; first | rwa [add_block] at this | exact this) GW159.out)) | (dsimp only; exact Nat.ne_of_lt (Nat.lt_of_lt_of_le (by have := World.block_lt_of_cell? _ _ hw163_0; first | rwa [add_block] at this | exact this) GW159.out))) _).trans (((cell_far (p := ⟨gb159, _, none⟩) (by first | exact Nat.ne_of_lt (Nat.lt_of_lt_of_le (by have := World.block_lt_of_cell? _ _ hw163_0; first | rwa [add_block] at this | exact this) GW159.out) | (rw [add_block]; exact Nat.ne_of_lt (Nat.lt_of_lt_of_le (by have := World.block_lt_of_cell? _ _ hw163_0; first | rwa [add_block] at this | exact this) GW159.out)) | (show (Addr.add _ _).block ≠ _; rw [add_block]; exact Nat.ne_of_lt (Nat.lt_of_lt_of_le (by have := World.block_lt_of_cell? _ _ hw163_0; first | rwa [add_block] at this | exact this) GW159.out)) | (dsimp only; exact Nat.ne_of_lt (Nat.lt_of_lt_of_le (by have := World.block_lt_of_cell? _ _ hw163_0; first | rwa [add_block] at this | exact this) GW159.out))) _).trans (hHeld.1)))), ((cell_far (p := ⟨gb159, _, none⟩) (by first | exact Nat.ne_of_lt (Nat.lt_of_lt_of_le (by have := World.block_lt_of_cell? _ _ hw163_1; first | rwa [add_block] at this | exact this) GW159.out) | (rw [add_block]; exact Nat.ne_of_lt (Nat.lt_of_lt_of_le (by have := World.block_lt_of_cell? _ _ hw163_1; first | rwa [add_block] at this | exact this) GW159.out)) | (show (Addr.add _ _).block ≠ _; rw [add_block]; exact Nat.ne_of_lt (Nat.lt_of_lt_of_le (by have := World.block_lt_of_cell? _ _ hw163_1; first | rwa [add_block] at this | exact this) GW159.out)) | (dsimp only; exact Nat.ne_of_lt (Nat.lt_of_lt_of_le (by have := World.block_lt_of_cell? _ _ hw163_1; first | rwa [add_block] at this | exact this) GW159.out))) _).trans (((cell_far (p := ⟨gb159, _, none⟩) (by first | exact Nat.ne_of_lt (Nat.lt_of_lt_of_le (by have := World.block_lt_of_cell? _ _ hw163_1; first | rwa [add_block] at this | exact this) GW159.out) | (rw [add_block]; exact Nat.ne_of_lt (Nat.lt_of_lt_of_le (by have := World.block_lt_of_cell? _ _ hw163_1; first | rwa [add_block] at this | exact this) GW159.out)) | (show (Addr.add _ _).block ≠ _; rw [add_block]; exact Nat.ne_of_lt (Nat.lt_of_lt_of_le (by have := World.block_lt_of_cell? _ _ hw163_1; first | rwa [add_block] at this | exact this) GW159.out)) | (dsimp only; exact Nat.ne_of_lt (Nat.lt_of_lt_of_le (by have := World.block_lt_of_cell? _ _ hw163_1; first | rwa [add_block] at this | exact this) GW159.out))) _).trans (hHeld.2.1)))), ((cell_far (p := ⟨gb159, _, none⟩) (by first | exact Nat.ne_of_lt (Nat.lt_of_lt_of_le (by have := World.block_lt_of_cell? _ _ hw163_2; first | rwa [add_block] at this | exact this) GW159.out) | (rw [add_block]; exact Nat.ne_of_lt (Nat.lt_of_lt_of_le (by have := World.block_lt_of_cell? _ _ hw163_2; first | rwa [add_block] at this | exact this) GW159.out)) | (show (Addr.add _ _).block ≠ _; rw [add_block]; exact Nat.ne_of_lt (Nat.lt_of_lt_of_le (by have := World.block_lt_of_cell? _ _ hw163_2; first | rwa [add_block] at this | exact this) GW159.out)) | (dsimp only; exact Nat.ne_of_lt (Nat.lt_of_lt_of_le (by have := World.block_lt_of_cell? _ _ hw163_2; first | rwa [add_block] at this | exact this) GW159.out))) _).trans (((cell_far (p := ⟨gb159, _, none⟩) (by first | exact Nat.ne_of_lt (Nat.lt_of_lt_of_le (by have := World.block_lt_of_cell? _ _ hw163_2; first | rwa [add_block] at this | exact this) GW159.out) | (rw [add_block]; exact Nat.ne_of_lt (Nat.lt_of_lt_of_le (by have := World.block_lt_of_cell? _ _ hw163_2; first | rwa [add_block] at this | exact this) GW159.out)) | (show (Addr.add _ _).block ≠ _; rw [add_block]; exact Nat.ne_of_lt (Nat.lt_of_lt_of_le (by have := World.block_lt_of_cell? _ _ hw163_2; first | rwa [add_block] at this | exact this) GW159.out)) | (dsimp only; exact Nat.ne_of_lt (Nat.lt_of_lt_of_le (by have := World.block_lt_of_cell? _ _ hw163_2; first | rwa [add_block] at this | exact this) GW159.out))) _).trans (hHeld.2.2))))⟩ (fun hHeld => ?_)
            clear hK K
            refine pure_ (i := 13) (N := some 5) (v := ?_) (a' := ?_) #[true, true, true, true, true, true, true, true, true, true, true, true, true, true] rfl rfl (any_of HT_.out (by kernel_rfl)) (fun _ _ _ h => h) (Or.inl ⟨by rfl, ?_⟩) ?_ ?_
            rotate_left
            · intro w'
              go_simp
              with_reducible rfl
            rotate_left
            · simp only [Act.put, List.setIfInBounds_toArray, List.set_cons_zero, List.set_cons_succ, i64_w, i32_w]
              rfl
            refine done_ (done_of HT_.out (by kernel_rfl)) ?_
            try go_wp2
            refine bodyPost_ret (results_ct rfl _ _ gb159 30 #[.int .i64 ((rd_T35 l0 t160).f0), .int .u64 t169] (0, 0) _ rfl (by (with_reducible repeat (first | refine blk_drewN ?_ _ | refine blk_drew ?_ | refine blk_alloc ?_ _)); refine blk_put (cs := #[.int .i64 ((rd_T35 l0 t160).f0), .int .u64 0]) ?_ 1 _ rfl; (with_reducible repeat (first | refine blk_drewN ?_ _ | refine blk_drew ?_ | refine blk_alloc ?_ _)); refine blk_put (cs := #[.int .i64 0, .int .u64 0]) ?_ 0 _ rfl; (with_reducible repeat (first | refine blk_drewN ?_ _ | refine blk_drew ?_ | refine blk_alloc ?_ _)); exact BK159.out) Try.underlying30 rfl (by kernel_rfl)) rfl ?_
            exact ⟨by first | rfl | (simp [errW_none, errW_some] <;> rfl) | (simp [*, errW_none, errW_some] <;> rfl), by repeat (first | (with_reducible first | exact HB.out | apply below_alloc | apply pw_below_drewN | apply below_drew1 | refine below_set ?_ GE159.out) | exact HB.out)⟩
          · rw [if_neg c9] at H
            exact absurd H (by simp)
        · rw [if_neg c8] at H
          exact absurd H (by simp)
      · rw [if_neg c6] at H
        exact absurd H (by simp)
    · rw [if_neg c5] at H
      exact absurd H (by simp)
  · replace c4 := Bool.eq_false_iff.mpr c4
    subst c4
    have H1 : (some (0, 0, false)) = some (r1, r2, r3) := by rw [if_neg (show ¬ (false = true) by decide)] at H; exact H
    clear H
    have H := H1
    clear H1
    simp only [Option.some.injEq, Prod.mk.injEq] at H
    obtain ⟨rfl, rfl, rfl⟩ := H
    go_enter Try.func18, Try.ntmps18
    go_wp2_with (first | ((with_reducible refine gate_dst (N := 4) rfl ?_); refine box_event ?hg (N := 4) ?hd (cs := #[.int .i64 0, .int .u64 0]) (t := 30) ?hr ?_; (case hd => rfl); (case hg => rfl); (case hr => first | (go_simp; done) | (go_simp; rfl)); intro gb159 hg w19 hbox hb; have n0_ := Aside0.mk (below_step (by repeat (first | (with_reducible first | exact HB.out | apply below_alloc | apply pw_below_drewN | apply below_drew1) | exact HB.out)) hb); have n1_ := Aside0.mk (hbox); have n2_ := Aside0.mk ((by rw [hg]; exact (below_size (by repeat (first | (with_reducible first | exact HB.out | apply below_alloc | apply pw_below_drewN | apply below_drew1) | exact HB.out))) : w.heap.size ≤ gb159)); have n3_ := Aside0.mk ((by rw [hg]; exact (below_size (by repeat (first | (with_reducible first | exact HB.out | apply below_alloc | apply pw_below_drewN | apply below_drew1) | exact HB.out))) : w.heap.size ≤ gb159)); clear HB; have HB := n0_; have BK159 := n1_; have GW159 := n2_; have GE159 := n3_; clear n0_ n1_ n2_ n3_; clear hb hbox hg) | ((with_reducible refine gate_callee (f := 57) rfl ?_); refine goesL_ (some 12) rfl rfl Try.func57 (by kernel_rfl) rfl #[.slice A0 l0.length c0, .int .i64 a1] rfl (by (try simp only [List.map_toArray, List.map_cons, List.map_nil]); first | done | rfl | (simp only [List.length_drop, List.length_take]; rfl)) ?_; (with_reducible refine (merge_around.calls k _ _ l0 a1 t160 t161 false _ ?side1 ?side2 A3.out).mono ?_); (case side1 => repeat (first | exact (Kd.C_below HR0.out HB.out) | (with_reducible refine Kd.C_alloc ?_ _) | (with_reducible refine Kd.C_drewN ?_ _) | (with_reducible refine Kd.C_drew ?_))); (case side2 => exact HC0.out); rintro e w20 ⟨rfl, hb⟩; refine ⟨_, rfl, ?_⟩; have n0_ := Aside0.mk (blk_below (g := gb159) (o := .cells #[.int .i64 0, .int .u64 0] 30 (0, 0)) (by (with_reducible repeat (first | refine blk_drewN ?_ _ | refine blk_drew ?_ | refine blk_alloc ?_ _)); exact BK159.out) hb); have n1_ := Aside0.mk (below_step (by repeat (first | (with_reducible first | exact HB.out | apply below_alloc | apply pw_below_drewN | apply below_drew1 | refine below_set ?_ GE159.out) | exact HB.out)) hb); clear BK159; clear HB; have BK159 := n0_; have HB := n1_; clear n0_ n1_; (try clear hb); (try clear hb2); (try clear hk); (try clear hi); have hcz21_0 : w20.cell? ⟨gb159, 0, none⟩ = some (.int .i64 0) := (blk_cell BK159.out 0).trans rfl; have hcz21_1 : w20.cell? ⟨gb159, 1, none⟩ = some (.int .u64 0) := (blk_cell BK159.out 1).trans rfl; have hfz21_0 := blk_frozen BK159.out 0; have hfz21_1 := blk_frozen BK159.out 1))
    refine bodyPost_ret (results_ct rfl _ _ gb159 30 #[.int .i64 0, .int .u64 0] (0, 0) _ rfl (by (with_reducible repeat (first | refine blk_drewN ?_ _ | refine blk_drew ?_ | refine blk_alloc ?_ _)); refine blk_put (cs := #[.int .i64 0, .int .u64 0]) ?_ 1 _ rfl; (with_reducible repeat (first | refine blk_drewN ?_ _ | refine blk_drew ?_ | refine blk_alloc ?_ _)); refine blk_put (cs := #[.int .i64 0, .int .u64 0]) ?_ 0 _ rfl; (with_reducible repeat (first | refine blk_drewN ?_ _ | refine blk_drew ?_ | refine blk_alloc ?_ _)); exact BK159.out) Try.underlying30 rfl (by kernel_rfl)) rfl ?_
    exact ⟨by first | rfl | (simp [errW_none, errW_some] <;> rfl) | (simp [*, errW_none, errW_some] <;> rfl), by repeat (first | (with_reducible first | exact HB.out | apply below_alloc | apply pw_below_drewN | apply below_drew1 | refine below_set ?_ GE159.out) | exact HB.out)⟩

/-! ### darninglaw17_awake: function 15 -/
def darninglaw17_awake.f (k : Nat)  : Option (Bool) := (some (([(⟨0, 3, false⟩ : S35), (⟨3, 3, true⟩ : S35), (⟨6, 2, false⟩ : S35)] : List (S35)) : List (S35))).bind fun y170 => ((merge_Blocks.f k y170 1).bind fun bt173 => ((merge_Edit.f k y170 1).bind fun bt177 => (if bt173.2 = true then (if (bt173.1.length : Int) = 1 then (if 0 < (bt173.1.length : Int) then (if ((rd_T35 bt173.1 0).f1) = 8 then (if ((rd_T35 bt173.1 0).f2 = true) then (some false) else (if bt177.2.2 = true then (some (bt177.1 == 0 && (bt177.2.1 == 16))) else (some false))) else (some false)) else (none)) else (some false)) else (some false))))
theorem darninglaw17_awake.mono : ∀ k, LeO (darninglaw17_awake.f k ) (darninglaw17_awake.f (k + 1) ) := by
  intro  k
  unfold darninglaw17_awake.f
  repeat' first
      | (with_reducible exact merge_Blocks.mono _ _ _)
      | (with_reducible exact merge_Edit.mono _ _ _)
      | (with_reducible exact LeO.refl _)
      | (with_reducible exact LeO.none _)
      | (with_reducible refine LeO.ite ?_ ?_)
      | (with_reducible refine LeO.bind ?_ (fun _ => ?_))
      | exact merge_Blocks.mono _ _ _
      | exact merge_Edit.mono _ _ _
      | exact LeO.none _
      | refine LeO.ite ?_ ?_
      | refine LeO.bind ?_ (fun _ => ?_)
set_option maxHeartbeats 8000000 in
set_option maxRecDepth 100000 in
theorem darninglaw17_awake.calls (k : Nat)  (r : Bool) (w : World) (h : darninglaw17_awake.f k  = some r) :
    Calls Try.prog 15 #[] w fun e w' => e = .returned (.bool r) ∧ Below w.heap.size w w' := by
  have hu35 := Try.underlying35
  have hu30 := Try.underlying30
  have HB := Aside0.mk (Below.refl w.heap.size w)
  have H : ((some (([(⟨0, 3, false⟩ : S35), (⟨3, 3, true⟩ : S35), (⟨6, 2, false⟩ : S35)] : List (S35)) : List (S35))).bind fun y170 => ((merge_Blocks.f k y170 1).bind fun bt173 => ((merge_Edit.f k y170 1).bind fun bt177 => (if bt173.2 = true then (if (bt173.1.length : Int) = 1 then (if 0 < (bt173.1.length : Int) then (if ((rd_T35 bt173.1 0).f1) = 8 then (if ((rd_T35 bt173.1 0).f2 = true) then (some false) else (if bt177.2.2 = true then (some (bt177.1 == 0 && (bt177.2.1 == 16))) else (some false))) else (some false)) else (none)) else (some false)) else (some false))))) = some r := h
  clear h
  obtain ⟨y170, hy170⟩ : ∃ y_ : List (S35), y_ = (([(⟨0, 3, false⟩ : S35), (⟨3, 3, true⟩ : S35), (⟨6, 2, false⟩ : S35)] : List (S35))) := ⟨_, rfl⟩
  replace H : ((merge_Blocks.f k y170 1).bind fun bt173 => ((merge_Edit.f k y170 1).bind fun bt177 => (if bt173.2 = true then (if (bt173.1.length : Int) = 1 then (if 0 < (bt173.1.length : Int) then (if ((rd_T35 bt173.1 0).f1) = 8 then (if ((rd_T35 bt173.1 0).f2 = true) then (some false) else (if bt177.2.2 = true then (some (bt177.1 == 0 && (bt177.2.1 == 16))) else (some false))) else (some false)) else (none)) else (some false)) else (some false)))) = some r := by first | (rw [hy170]; with_reducible exact H) | (have H2_ := (Option.bind_some _ _).symm.trans H; rw [hy170]; with_reducible exact H2_) | (have H2_ := (Option.bind_some _ _).symm.trans H; with_reducible exact H2_) | with_reducible exact H | (rw [hy170]; exact H) | exact H
  have Ny170 := Aside0.mk hy170
  clear hy170
  replace H := Option.bind_eq_some_iff.mp H
  obtain ⟨⟨t173, t176⟩, A10, H⟩ := H
  replace H : ((merge_Edit.f k y170 1).bind fun bt177 => (if t176 = true then (if (t173.length : Int) = 1 then (if 0 < (t173.length : Int) then (if ((rd_T35 t173 0).f1) = 8 then (if ((rd_T35 t173 0).f2 = true) then (some false) else (if bt177.2.2 = true then (some (bt177.1 == 0 && (bt177.2.1 == 16))) else (some false))) else (some false)) else (none)) else (some false)) else (some false))) = some r := H
  have A1 := Aside0.mk A10
  clear A10
  replace H := Option.bind_eq_some_iff.mp H
  obtain ⟨⟨t177, t178, t179⟩, A20, H⟩ := H
  replace H : (if t176 = true then (if (t173.length : Int) = 1 then (if 0 < (t173.length : Int) then (if ((rd_T35 t173 0).f1) = 8 then (if ((rd_T35 t173 0).f2 = true) then (some false) else (if t179 = true then (some (t177 == 0 && (t178 == 16))) else (some false))) else (some false)) else (none)) else (some false)) else (some false)) = some r := H
  have A2 := Aside0.mk A20
  clear A20
  by_cases c3 : t176 = true
  · subst c3
    have H1 : (if (t173.length : Int) = 1 then (if 0 < (t173.length : Int) then (if ((rd_T35 t173 0).f1) = 8 then (if ((rd_T35 t173 0).f2 = true) then (some false) else (if t179 = true then (some (t177 == 0 && (t178 == 16))) else (some false))) else (some false)) else (none)) else (some false)) = some r := by rw [if_pos rfl] at H; exact H
    clear H
    have H := H1
    clear H1
    by_cases c4 : (t173.length : Int) = 1
    · rw [if_pos c4] at H
      have c4b0 : ((t173.length : Int) == 1) = true := beq_iff_eq.mpr c4
      have c4b1 : ((t173.length : Int) != 1) = false := bne_eq_false_iff_eq.mpr c4
      clear c4
      by_cases c5 : 0 < (t173.length : Int)
      · rw [if_pos c5] at H
        have c5b0 : decide (0 < (t173.length : Int)) = true := decide_eq_true c5
        have c5b1 : decide (0 < t173.length) = true := decide_eq_true (by omega)
        clear c5
        by_cases c6 : ((rd_T35 t173 0).f1) = 8
        · rw [if_pos c6] at H
          have c6b0 : (((rd_T35 t173 0).f1) == 8) = true := beq_iff_eq.mpr c6
          have c6b1 : (((rd_T35 t173 0).f1) != 8) = false := bne_eq_false_iff_eq.mpr c6
          clear c6
          obtain ⟨bq7, hbq7⟩ : ∃ b_ : Bool, b_ = ((rd_T35 t173 0).f2) := ⟨_, rfl⟩
          replace H : (if (bq7 = true) then (some false) else (if t179 = true then (some (t177 == 0 && (t178 == 16))) else (some false))) = some r := by first | exact H | (rw [← hbq7] at H; exact H)
          have Nbq7 := Aside0.mk hbq7
          clear hbq7
          (try rw [← Nbq7.out])
          by_cases c8 : (bq7 = true)
          · subst c8
            have H1 : (some false) = some r := by rw [if_pos rfl] at H; exact H
            clear H
            have H := H1
            clear H1
            obtain rfl := Option.some.inj H
            go_enter Try.func15, Try.ntmps15
            go_wp2_with (first | ((with_reducible refine gate_dst (N := 9) rfl ?_); (try (refine gate_guard (by rfl) ?_; dsimp only)); refine Kd.R_lit k35 _ 35 ?hg (N := 9) ?hd (xs := ([(⟨0, 3, false⟩ : S35), (⟨3, 3, true⟩ : S35), (⟨6, 2, false⟩ : S35)] : List (S35))) (inner := [.int .i64 0, .int .i64 3, .bool false, .int .i64 3, .int .i64 3, .bool true, .int .i64 6, .int .i64 2, .bool false]) (ok := fun _ => True) (okp := fun _ => True) ?hr ?hp (fun _ hk => hk) trivial (Below.refl _ _) (Nat.le_refl _) (by simp) ?_; (case hd => rfl); (case hg => rfl); (case hr => first | (go_simp; done) | (go_simp; rfl)); (case hp => exact (Reps.c3 (show Kd.M k35 _ _ _ (⟨0, 3, false⟩ : S35) [.int .i64 0, .int .i64 3, .bool false] from (k35_mkM _ _ _ (⟨0, 3, false⟩ : S35) )) (Reps.c3 (show Kd.M k35 _ _ _ (⟨3, 3, true⟩ : S35) [.int .i64 3, .int .i64 3, .bool true] from (k35_mkM _ _ _ (⟨3, 3, true⟩ : S35) )) (Reps.c3 (show Kd.M k35 _ _ _ (⟨6, 2, false⟩ : S35) [.int .i64 6, .int .i64 2, .bool false] from (k35_mkM _ _ _ (⟨6, 2, false⟩ : S35) )) (Reps.none _ _))))); intro v171 w9 ho10 hb hg_ hnew_; clear hg_ hnew_; (first | rw [← Ny170.out] at ho10 | (simp only [Int.reduceToNat] at ho10; rw [← Ny170.out] at ho10)); have n0_ := Aside0.mk (Kd.R_lower ho10 (below_size (by repeat (first | (with_reducible first | exact HB.out | apply below_alloc | apply pw_below_drewN | apply below_drew1) | exact HB.out)))); have n1_ := Aside0.mk (below_step (by repeat (first | (with_reducible first | exact HB.out | apply below_alloc | apply pw_below_drewN | apply below_drew1) | exact HB.out)) hb); clear HB; have HO172 := n0_; have HB := n1_; clear n0_ n1_; clear hb ho10; obtain ⟨Ao11, co11, eo11⟩ := Kd.R_slice HO172.out; subst eo11) | ((with_reducible refine gate_callee (f := 16) rfl ?_); refine goesL_ (some 12) rfl rfl Try.func16 (by kernel_rfl) rfl #[.slice Ao11 y170.length co11, .int .i64 1] rfl (by (try simp only [List.map_toArray, List.map_cons, List.map_nil]); first | done | rfl | (simp only [List.length_drop, List.length_take]; rfl)) ?_; (with_reducible refine (merge_Blocks.calls k (fun k_ => some k_ = (.slice Ao11 y170.length co11 : Value).ownBlock) _ _ y170 1 t173 true _ ?side1 A1.out).mono ?_); (case side1 => exact Kd.R_V (Kd.R_tight rfl (HO172.out))); rintro e w12 ⟨v174, rfl, ho0, hb⟩; refine ⟨_, rfl, ?_⟩; have n0_ := Aside0.mk (Kd.R_elder' (by (with_reducible repeat (first | apply Kd.R_alloc | apply Kd.R_drewN | apply Kd.R_drew)); exact HO172.out) (Kd.R_base ho0) hb); have n1_ := Aside0.mk (Kd.R_lower (Kd.R_new' (Kd.R_mono (ok' := fun k_ => True) ho0 (fun _ hk_ => trivial)) (Kd.R_lt (by (with_reducible repeat (first | apply Kd.R_alloc | apply Kd.R_drewN | apply Kd.R_drew)); exact HO172.out))) (below_size (by repeat (first | (with_reducible first | exact HB.out | apply below_alloc | apply pw_below_drewN | apply below_drew1) | exact HB.out)))); have n2_ := Aside0.mk (below_step (by repeat (first | (with_reducible first | exact HB.out | apply below_alloc | apply pw_below_drewN | apply below_drew1) | exact HB.out)) hb); clear HO172; clear HB; have HO172 := n0_; have HO175 := n1_; have HB := n2_; clear n0_ n1_ n2_; (try clear hb); (try clear hb2); (try clear hk); (try clear hi); (try clear ho0)) | ((with_reducible refine gate_callee (f := 18) rfl ?_); refine goesL_ (some 17) rfl rfl Try.func18 (by kernel_rfl) rfl #[.slice Ao11 y170.length co11, .int .i64 1] rfl (by (try simp only [List.map_toArray, List.map_cons, List.map_nil]); first | done | rfl | (simp only [List.length_drop, List.length_take]; rfl)) ?_; (with_reducible refine (merge_Edit.calls k _ _ y170 1 t177 t178 t179 _ ?side1 ?side2 A2.out).mono ?_); (case side1 => repeat (first | exact (Kd.R_reads' HO172.out).2.2 | (with_reducible refine Kd.C_alloc ?_ _) | (with_reducible refine Kd.C_drewN ?_ _) | (with_reducible refine Kd.C_drew ?_))); (case side2 => exact (Kd.R_reads' HO172.out).2.1); rintro e w13 ⟨rfl, hb⟩; refine ⟨_, rfl, ?_⟩; have n0_ := Aside0.mk (Kd.R_below (by (with_reducible repeat (first | apply Kd.R_alloc | apply Kd.R_drewN | apply Kd.R_drew)); exact HO172.out) hb); have n1_ := Aside0.mk (Kd.R_below (by (with_reducible repeat (first | apply Kd.R_alloc | apply Kd.R_drewN | apply Kd.R_drew)); exact HO175.out) hb); have n2_ := Aside0.mk (below_step (by repeat (first | (with_reducible first | exact HB.out | apply below_alloc | apply pw_below_drewN | apply below_drew1) | exact HB.out)) hb); clear HO172; clear HO175; clear HB; have HO172 := n0_; have HO175 := n1_; have HB := n2_; clear n0_ n1_ n2_; (try clear hb); (try clear hb2); (try clear hk); (try clear hi)) | ((with_reducible refine gate_dst (N := 4) rfl ?_); (try (refine gate_guard (by rfl) ?_; dsimp only)); refine box_event ?hg (N := 4) ?hd (cs := #[.int .i64 0, .int .u64 0]) (t := 30) ?hr ?_; (case hd => rfl); (case hg => rfl); (case hr => first | (go_simp; done) | (go_simp; rfl)); intro gb180 hg w14 hbox hb; have n0_ := Aside0.mk (Kd.R_below (by (with_reducible repeat (first | apply Kd.R_alloc | apply Kd.R_drewN | apply Kd.R_drew)); exact HO172.out) hb); have n1_ := Aside0.mk (Kd.R_below (by (with_reducible repeat (first | apply Kd.R_alloc | apply Kd.R_drewN | apply Kd.R_drew)); exact HO175.out) hb); have n2_ := Aside0.mk (below_step (by repeat (first | (with_reducible first | exact HB.out | apply below_alloc | apply pw_below_drewN | apply below_drew1) | exact HB.out)) hb); have n3_ := Aside0.mk (hbox); have n4_ := Aside0.mk ((by rw [hg]; exact (below_size (by repeat (first | (with_reducible first | exact HB.out | apply below_alloc | apply pw_below_drewN | apply below_drew1) | exact HB.out))) : w.heap.size ≤ gb180)); have n5_ := Aside0.mk ((by rw [hg]; exact (below_size (by repeat (first | (with_reducible first | exact HB.out | apply below_alloc | apply pw_below_drewN | apply below_drew1) | exact HB.out))) : w.heap.size ≤ gb180)); clear HO172; clear HO175; clear HB; have HO172 := n0_; have HO175 := n1_; have HB := n2_; have BK180 := n3_; have GW180 := n4_; have GE180 := n5_; clear n0_ n1_ n2_ n3_ n4_ n5_; clear hb hbox hg; have hcz15_0 : w14.cell? ⟨gb180, 0, none⟩ = some (.int .i64 0) := (blk_cell BK180.out 0).trans rfl; have hcz15_1 : w14.cell? ⟨gb180, 1, none⟩ = some (.int .u64 0) := (blk_cell BK180.out 1).trans rfl; have hfz15_0 := blk_frozen BK180.out 0; have hfz15_1 := blk_frozen BK180.out 1; obtain ⟨Ao16, co16, eo16⟩ := Kd.R_slice HO175.out; subst eo16; have p181 : 0 ≤ (0 : Int) := (by omega); have q181 : 0 < (t173.length : Int) := of_decide_eq_true (by first | (with_reducible assumption) | assumption); obtain ⟨ad181, e181, hx181_0, hx181_1, hx181_2⟩ := at_T35 (Kd.R_reads' HO175.out).2.2 0 p181 q181; (try rw [← Nbq7.out] at hx181_2); cases e181; have qi181 : (0 < t173.length) = True := eq_true (by omega); (try rw [show ((0 : Int)).toNat = 0 from rfl] at hx181_0); (try rw [show 0 * 3 = 0 from rfl] at hx181_0); (try rw [Addr.add_zero'] at hx181_0); (try rw [show ((0 : Int)).toNat = 0 from rfl] at hx181_1); (try rw [show 0 * 3 = 0 from rfl] at hx181_1); (try rw [Addr.add_zero'] at hx181_1); (try rw [show ((0 : Int)).toNat = 0 from rfl] at hx181_2); (try rw [show 0 * 3 = 0 from rfl] at hx181_2); (try rw [Addr.add_zero'] at hx181_2); have hn181_0 : ad181.block ≠ gb180 := Kd.own_blk (Kd.R_ne HO175.out BK180.out (by decide)); have hn181_1 : ad181.block ≠ gb180 := Kd.own_blk (Kd.R_ne HO175.out BK180.out (by decide)); replace hx181_0 := (cell_far (p := ⟨gb180, 0, none⟩) (by first | (rw [add_block]; exact hn181_0) | (show (Addr.add _ _).block ≠ _; rw [add_block]; exact hn181_0) | exact hn181_0) (.int .i64 t177)).trans hx181_0; replace hx181_1 := (cell_far (p := ⟨gb180, 0, none⟩) (by first | (rw [add_block]; exact hn181_0) | (show (Addr.add _ _).block ≠ _; rw [add_block]; exact hn181_0) | exact hn181_0) (.int .i64 t177)).trans hx181_1; replace hx181_2 := (cell_far (p := ⟨gb180, 0, none⟩) (by first | (rw [add_block]; exact hn181_0) | (show (Addr.add _ _).block ≠ _; rw [add_block]; exact hn181_0) | exact hn181_0) (.int .i64 t177)).trans hx181_2; replace hx181_0 := (cell_far (p := ⟨gb180, 1, none⟩) (by first | (rw [add_block]; exact hn181_1) | (show (Addr.add _ _).block ≠ _; rw [add_block]; exact hn181_1) | exact hn181_1) (.int .u64 t178)).trans hx181_0; replace hx181_1 := (cell_far (p := ⟨gb180, 1, none⟩) (by first | (rw [add_block]; exact hn181_1) | (show (Addr.add _ _).block ≠ _; rw [add_block]; exact hn181_1) | exact hn181_1) (.int .u64 t178)).trans hx181_1; replace hx181_2 := (cell_far (p := ⟨gb180, 1, none⟩) (by first | (rw [add_block]; exact hn181_1) | (show (Addr.add _ _).block ≠ _; rw [add_block]; exact hn181_1) | exact hn181_1) (.int .u64 t178)).trans hx181_2; clear hn181_0; clear hn181_1; replace p181 := eq_true p181; replace q181 := eq_true q181; have p182 : 0 ≤ (0 : Int) := (by omega); have q182 : 0 < (t173.length : Int) := of_decide_eq_true (by first | (with_reducible assumption) | assumption); obtain ⟨ad182, e182, hx182_0, hx182_1, hx182_2⟩ := at_T35 (Kd.R_reads' HO175.out).2.2 0 p182 q182; (try rw [← Nbq7.out] at hx182_2); obtain rfl : ad181 = ad182 := (by injection e182); have qi182 : (0 < t173.length) = True := eq_true (by omega); (try rw [show ((0 : Int)).toNat = 0 from rfl] at hx182_0); (try rw [show 0 * 3 = 0 from rfl] at hx182_0); (try rw [Addr.add_zero'] at hx182_0); (try rw [show ((0 : Int)).toNat = 0 from rfl] at hx182_1); (try rw [show 0 * 3 = 0 from rfl] at hx182_1); (try rw [Addr.add_zero'] at hx182_1); (try rw [show ((0 : Int)).toNat = 0 from rfl] at hx182_2); (try rw [show 0 * 3 = 0 from rfl] at hx182_2); (try rw [Addr.add_zero'] at hx182_2); have hn182_0 : ad181.block ≠ gb180 := Kd.own_blk (Kd.R_ne HO175.out BK180.out (by decide)); have hn182_1 : ad181.block ≠ gb180 := Kd.own_blk (Kd.R_ne HO175.out BK180.out (by decide)); replace hx182_0 := (cell_far (p := ⟨gb180, 0, none⟩) (by first | (rw [add_block]; exact hn182_0) | (show (Addr.add _ _).block ≠ _; rw [add_block]; exact hn182_0) | exact hn182_0) (.int .i64 t177)).trans hx182_0; replace hx182_1 := (cell_far (p := ⟨gb180, 0, none⟩) (by first | (rw [add_block]; exact hn182_0) | (show (Addr.add _ _).block ≠ _; rw [add_block]; exact hn182_0) | exact hn182_0) (.int .i64 t177)).trans hx182_1; replace hx182_2 := (cell_far (p := ⟨gb180, 0, none⟩) (by first | (rw [add_block]; exact hn182_0) | (show (Addr.add _ _).block ≠ _; rw [add_block]; exact hn182_0) | exact hn182_0) (.int .i64 t177)).trans hx182_2; replace hx182_0 := (cell_far (p := ⟨gb180, 1, none⟩) (by first | (rw [add_block]; exact hn182_1) | (show (Addr.add _ _).block ≠ _; rw [add_block]; exact hn182_1) | exact hn182_1) (.int .u64 t178)).trans hx182_0; replace hx182_1 := (cell_far (p := ⟨gb180, 1, none⟩) (by first | (rw [add_block]; exact hn182_1) | (show (Addr.add _ _).block ≠ _; rw [add_block]; exact hn182_1) | exact hn182_1) (.int .u64 t178)).trans hx182_1; replace hx182_2 := (cell_far (p := ⟨gb180, 1, none⟩) (by first | (rw [add_block]; exact hn182_1) | (show (Addr.add _ _).block ≠ _; rw [add_block]; exact hn182_1) | exact hn182_1) (.int .u64 t178)).trans hx182_2; clear hn182_0; clear hn182_1; replace p182 := eq_true p182; replace q182 := eq_true q182))
            go_ret
            exact ⟨by first | rfl | (simp [errW_none, errW_some] <;> rfl) | (simp [*, errW_none, errW_some] <;> rfl), by repeat (first | (with_reducible first | exact HB.out | apply below_alloc | apply pw_below_drewN | apply below_drew1 | refine below_set ?_ GE180.out) | exact HB.out)⟩
          · replace c8 := Bool.eq_false_iff.mpr c8
            subst c8
            have H1 : (if t179 = true then (some (t177 == 0 && (t178 == 16))) else (some false)) = some r := by rw [if_neg (show ¬ (false = true) by decide)] at H; exact H
            clear H
            have H := H1
            clear H1
            by_cases c17 : t179 = true
            · subst c17
              have H1 : (some (t177 == 0 && (t178 == 16))) = some r := by rw [if_pos rfl] at H; exact H
              clear H
              have H := H1
              clear H1
              obtain rfl := Option.some.inj H
              go_enter Try.func15, Try.ntmps15
              go_wp2_with (first | ((with_reducible refine gate_dst (N := 9) rfl ?_); (try (refine gate_guard (by rfl) ?_; dsimp only)); refine Kd.R_lit k35 _ 35 ?hg (N := 9) ?hd (xs := ([(⟨0, 3, false⟩ : S35), (⟨3, 3, true⟩ : S35), (⟨6, 2, false⟩ : S35)] : List (S35))) (inner := [.int .i64 0, .int .i64 3, .bool false, .int .i64 3, .int .i64 3, .bool true, .int .i64 6, .int .i64 2, .bool false]) (ok := fun _ => True) (okp := fun _ => True) ?hr ?hp (fun _ hk => hk) trivial (Below.refl _ _) (Nat.le_refl _) (by simp) ?_; (case hd => rfl); (case hg => rfl); (case hr => first | (go_simp; done) | (go_simp; rfl)); (case hp => exact (Reps.c3 (show Kd.M k35 _ _ _ (⟨0, 3, false⟩ : S35) [.int .i64 0, .int .i64 3, .bool false] from (k35_mkM _ _ _ (⟨0, 3, false⟩ : S35) )) (Reps.c3 (show Kd.M k35 _ _ _ (⟨3, 3, true⟩ : S35) [.int .i64 3, .int .i64 3, .bool true] from (k35_mkM _ _ _ (⟨3, 3, true⟩ : S35) )) (Reps.c3 (show Kd.M k35 _ _ _ (⟨6, 2, false⟩ : S35) [.int .i64 6, .int .i64 2, .bool false] from (k35_mkM _ _ _ (⟨6, 2, false⟩ : S35) )) (Reps.none _ _))))); intro v171 w18 ho19 hb hg_ hnew_; clear hg_ hnew_; (first | rw [← Ny170.out] at ho19 | (simp only [Int.reduceToNat] at ho19; rw [← Ny170.out] at ho19)); have n0_ := Aside0.mk (Kd.R_lower ho19 (below_size (by repeat (first | (with_reducible first | exact HB.out | apply below_alloc | apply pw_below_drewN | apply below_drew1) | exact HB.out)))); have n1_ := Aside0.mk (below_step (by repeat (first | (with_reducible first | exact HB.out | apply below_alloc | apply pw_below_drewN | apply below_drew1) | exact HB.out)) hb); clear HB; have HO172 := n0_; have HB := n1_; clear n0_ n1_; clear hb ho19; obtain ⟨Ao20, co20, eo20⟩ := Kd.R_slice HO172.out; subst eo20) | ((with_reducible refine gate_callee (f := 16) rfl ?_); refine goesL_ (some 12) rfl rfl Try.func16 (by kernel_rfl) rfl #[.slice Ao20 y170.length co20, .int .i64 1] rfl (by (try simp only [List.map_toArray, List.map_cons, List.map_nil]); first | done | rfl | (simp only [List.length_drop, List.length_take]; rfl)) ?_; (with_reducible refine (merge_Blocks.calls k (fun k_ => some k_ = (.slice Ao20 y170.length co20 : Value).ownBlock) _ _ y170 1 t173 true _ ?side1 A1.out).mono ?_); (case side1 => exact Kd.R_V (Kd.R_tight rfl (HO172.out))); rintro e w21 ⟨v174, rfl, ho0, hb⟩; refine ⟨_, rfl, ?_⟩; have n0_ := Aside0.mk (Kd.R_elder' (by (with_reducible repeat (first | apply Kd.R_alloc | apply Kd.R_drewN | apply Kd.R_drew)); exact HO172.out) (Kd.R_base ho0) hb); have n1_ := Aside0.mk (Kd.R_lower (Kd.R_new' (Kd.R_mono (ok' := fun k_ => True) ho0 (fun _ hk_ => trivial)) (Kd.R_lt (by (with_reducible repeat (first | apply Kd.R_alloc | apply Kd.R_drewN | apply Kd.R_drew)); exact HO172.out))) (below_size (by repeat (first | (with_reducible first | exact HB.out | apply below_alloc | apply pw_below_drewN | apply below_drew1) | exact HB.out)))); have n2_ := Aside0.mk (below_step (by repeat (first | (with_reducible first | exact HB.out | apply below_alloc | apply pw_below_drewN | apply below_drew1) | exact HB.out)) hb); clear HO172; clear HB; have HO172 := n0_; have HO175 := n1_; have HB := n2_; clear n0_ n1_ n2_; (try clear hb); (try clear hb2); (try clear hk); (try clear hi); (try clear ho0)) | ((with_reducible refine gate_callee (f := 18) rfl ?_); refine goesL_ (some 17) rfl rfl Try.func18 (by kernel_rfl) rfl #[.slice Ao20 y170.length co20, .int .i64 1] rfl (by (try simp only [List.map_toArray, List.map_cons, List.map_nil]); first | done | rfl | (simp only [List.length_drop, List.length_take]; rfl)) ?_; (with_reducible refine (merge_Edit.calls k _ _ y170 1 t177 t178 true _ ?side1 ?side2 A2.out).mono ?_); (case side1 => repeat (first | exact (Kd.R_reads' HO172.out).2.2 | (with_reducible refine Kd.C_alloc ?_ _) | (with_reducible refine Kd.C_drewN ?_ _) | (with_reducible refine Kd.C_drew ?_))); (case side2 => exact (Kd.R_reads' HO172.out).2.1); rintro e w22 ⟨rfl, hb⟩; refine ⟨_, rfl, ?_⟩; have n0_ := Aside0.mk (Kd.R_below (by (with_reducible repeat (first | apply Kd.R_alloc | apply Kd.R_drewN | apply Kd.R_drew)); exact HO172.out) hb); have n1_ := Aside0.mk (Kd.R_below (by (with_reducible repeat (first | apply Kd.R_alloc | apply Kd.R_drewN | apply Kd.R_drew)); exact HO175.out) hb); have n2_ := Aside0.mk (below_step (by repeat (first | (with_reducible first | exact HB.out | apply below_alloc | apply pw_below_drewN | apply below_drew1) | exact HB.out)) hb); clear HO172; clear HO175; clear HB; have HO172 := n0_; have HO175 := n1_; have HB := n2_; clear n0_ n1_ n2_; (try clear hb); (try clear hb2); (try clear hk); (try clear hi)) | ((with_reducible refine gate_dst (N := 4) rfl ?_); (try (refine gate_guard (by rfl) ?_; dsimp only)); refine box_event ?hg (N := 4) ?hd (cs := #[.int .i64 0, .int .u64 0]) (t := 30) ?hr ?_; (case hd => rfl); (case hg => rfl); (case hr => first | (go_simp; done) | (go_simp; rfl)); intro gb180 hg w23 hbox hb; have n0_ := Aside0.mk (Kd.R_below (by (with_reducible repeat (first | apply Kd.R_alloc | apply Kd.R_drewN | apply Kd.R_drew)); exact HO172.out) hb); have n1_ := Aside0.mk (Kd.R_below (by (with_reducible repeat (first | apply Kd.R_alloc | apply Kd.R_drewN | apply Kd.R_drew)); exact HO175.out) hb); have n2_ := Aside0.mk (below_step (by repeat (first | (with_reducible first | exact HB.out | apply below_alloc | apply pw_below_drewN | apply below_drew1) | exact HB.out)) hb); have n3_ := Aside0.mk (hbox); have n4_ := Aside0.mk ((by rw [hg]; exact (below_size (by repeat (first | (with_reducible first | exact HB.out | apply below_alloc | apply pw_below_drewN | apply below_drew1) | exact HB.out))) : w.heap.size ≤ gb180)); have n5_ := Aside0.mk ((by rw [hg]; exact (below_size (by repeat (first | (with_reducible first | exact HB.out | apply below_alloc | apply pw_below_drewN | apply below_drew1) | exact HB.out))) : w.heap.size ≤ gb180)); clear HO172; clear HO175; clear HB; have HO172 := n0_; have HO175 := n1_; have HB := n2_; have BK180 := n3_; have GW180 := n4_; have GE180 := n5_; clear n0_ n1_ n2_ n3_ n4_ n5_; clear hb hbox hg; have hcz24_0 : w23.cell? ⟨gb180, 0, none⟩ = some (.int .i64 0) := (blk_cell BK180.out 0).trans rfl; have hcz24_1 : w23.cell? ⟨gb180, 1, none⟩ = some (.int .u64 0) := (blk_cell BK180.out 1).trans rfl; have hfz24_0 := blk_frozen BK180.out 0; have hfz24_1 := blk_frozen BK180.out 1; obtain ⟨Ao25, co25, eo25⟩ := Kd.R_slice HO175.out; subst eo25; have p181 : 0 ≤ (0 : Int) := (by omega); have q181 : 0 < (t173.length : Int) := of_decide_eq_true (by first | (with_reducible assumption) | assumption); obtain ⟨ad181, e181, hx181_0, hx181_1, hx181_2⟩ := at_T35 (Kd.R_reads' HO175.out).2.2 0 p181 q181; (try rw [← Nbq7.out] at hx181_2); cases e181; have qi181 : (0 < t173.length) = True := eq_true (by omega); (try rw [show ((0 : Int)).toNat = 0 from rfl] at hx181_0); (try rw [show 0 * 3 = 0 from rfl] at hx181_0); (try rw [Addr.add_zero'] at hx181_0); (try rw [show ((0 : Int)).toNat = 0 from rfl] at hx181_1); (try rw [show 0 * 3 = 0 from rfl] at hx181_1); (try rw [Addr.add_zero'] at hx181_1); (try rw [show ((0 : Int)).toNat = 0 from rfl] at hx181_2); (try rw [show 0 * 3 = 0 from rfl] at hx181_2); (try rw [Addr.add_zero'] at hx181_2); have hn181_0 : ad181.block ≠ gb180 := Kd.own_blk (Kd.R_ne HO175.out BK180.out (by decide)); have hn181_1 : ad181.block ≠ gb180 := Kd.own_blk (Kd.R_ne HO175.out BK180.out (by decide)); replace hx181_0 := (cell_far (p := ⟨gb180, 0, none⟩) (by first | (rw [add_block]; exact hn181_0) | (show (Addr.add _ _).block ≠ _; rw [add_block]; exact hn181_0) | exact hn181_0) (.int .i64 t177)).trans hx181_0; replace hx181_1 := (cell_far (p := ⟨gb180, 0, none⟩) (by first | (rw [add_block]; exact hn181_0) | (show (Addr.add _ _).block ≠ _; rw [add_block]; exact hn181_0) | exact hn181_0) (.int .i64 t177)).trans hx181_1; replace hx181_2 := (cell_far (p := ⟨gb180, 0, none⟩) (by first | (rw [add_block]; exact hn181_0) | (show (Addr.add _ _).block ≠ _; rw [add_block]; exact hn181_0) | exact hn181_0) (.int .i64 t177)).trans hx181_2; replace hx181_0 := (cell_far (p := ⟨gb180, 1, none⟩) (by first | (rw [add_block]; exact hn181_1) | (show (Addr.add _ _).block ≠ _; rw [add_block]; exact hn181_1) | exact hn181_1) (.int .u64 t178)).trans hx181_0; replace hx181_1 := (cell_far (p := ⟨gb180, 1, none⟩) (by first | (rw [add_block]; exact hn181_1) | (show (Addr.add _ _).block ≠ _; rw [add_block]; exact hn181_1) | exact hn181_1) (.int .u64 t178)).trans hx181_1; replace hx181_2 := (cell_far (p := ⟨gb180, 1, none⟩) (by first | (rw [add_block]; exact hn181_1) | (show (Addr.add _ _).block ≠ _; rw [add_block]; exact hn181_1) | exact hn181_1) (.int .u64 t178)).trans hx181_2; clear hn181_0; clear hn181_1; replace p181 := eq_true p181; replace q181 := eq_true q181; have p182 : 0 ≤ (0 : Int) := (by omega); have q182 : 0 < (t173.length : Int) := of_decide_eq_true (by first | (with_reducible assumption) | assumption); obtain ⟨ad182, e182, hx182_0, hx182_1, hx182_2⟩ := at_T35 (Kd.R_reads' HO175.out).2.2 0 p182 q182; (try rw [← Nbq7.out] at hx182_2); obtain rfl : ad181 = ad182 := (by injection e182); have qi182 : (0 < t173.length) = True := eq_true (by omega); (try rw [show ((0 : Int)).toNat = 0 from rfl] at hx182_0); (try rw [show 0 * 3 = 0 from rfl] at hx182_0); (try rw [Addr.add_zero'] at hx182_0); (try rw [show ((0 : Int)).toNat = 0 from rfl] at hx182_1); (try rw [show 0 * 3 = 0 from rfl] at hx182_1); (try rw [Addr.add_zero'] at hx182_1); (try rw [show ((0 : Int)).toNat = 0 from rfl] at hx182_2); (try rw [show 0 * 3 = 0 from rfl] at hx182_2); (try rw [Addr.add_zero'] at hx182_2); have hn182_0 : ad181.block ≠ gb180 := Kd.own_blk (Kd.R_ne HO175.out BK180.out (by decide)); have hn182_1 : ad181.block ≠ gb180 := Kd.own_blk (Kd.R_ne HO175.out BK180.out (by decide)); replace hx182_0 := (cell_far (p := ⟨gb180, 0, none⟩) (by first | (rw [add_block]; exact hn182_0) | (show (Addr.add _ _).block ≠ _; rw [add_block]; exact hn182_0) | exact hn182_0) (.int .i64 t177)).trans hx182_0; replace hx182_1 := (cell_far (p := ⟨gb180, 0, none⟩) (by first | (rw [add_block]; exact hn182_0) | (show (Addr.add _ _).block ≠ _; rw [add_block]; exact hn182_0) | exact hn182_0) (.int .i64 t177)).trans hx182_1; replace hx182_2 := (cell_far (p := ⟨gb180, 0, none⟩) (by first | (rw [add_block]; exact hn182_0) | (show (Addr.add _ _).block ≠ _; rw [add_block]; exact hn182_0) | exact hn182_0) (.int .i64 t177)).trans hx182_2; replace hx182_0 := (cell_far (p := ⟨gb180, 1, none⟩) (by first | (rw [add_block]; exact hn182_1) | (show (Addr.add _ _).block ≠ _; rw [add_block]; exact hn182_1) | exact hn182_1) (.int .u64 t178)).trans hx182_0; replace hx182_1 := (cell_far (p := ⟨gb180, 1, none⟩) (by first | (rw [add_block]; exact hn182_1) | (show (Addr.add _ _).block ≠ _; rw [add_block]; exact hn182_1) | exact hn182_1) (.int .u64 t178)).trans hx182_1; replace hx182_2 := (cell_far (p := ⟨gb180, 1, none⟩) (by first | (rw [add_block]; exact hn182_1) | (show (Addr.add _ _).block ≠ _; rw [add_block]; exact hn182_1) | exact hn182_1) (.int .u64 t178)).trans hx182_2; clear hn182_0; clear hn182_1; replace p182 := eq_true p182; replace q182 := eq_true q182))
              go_ret
              exact ⟨by first | rfl | (simp [errW_none, errW_some] <;> rfl) | (simp [*, errW_none, errW_some] <;> rfl), by repeat (first | (with_reducible first | exact HB.out | apply below_alloc | apply pw_below_drewN | apply below_drew1 | refine below_set ?_ GE180.out) | exact HB.out)⟩
            · replace c17 := Bool.eq_false_iff.mpr c17
              subst c17
              have H1 : (some false) = some r := by rw [if_neg (show ¬ (false = true) by decide)] at H; exact H
              clear H
              have H := H1
              clear H1
              obtain rfl := Option.some.inj H
              go_enter Try.func15, Try.ntmps15
              go_wp2_with (first | ((with_reducible refine gate_dst (N := 9) rfl ?_); (try (refine gate_guard (by rfl) ?_; dsimp only)); refine Kd.R_lit k35 _ 35 ?hg (N := 9) ?hd (xs := ([(⟨0, 3, false⟩ : S35), (⟨3, 3, true⟩ : S35), (⟨6, 2, false⟩ : S35)] : List (S35))) (inner := [.int .i64 0, .int .i64 3, .bool false, .int .i64 3, .int .i64 3, .bool true, .int .i64 6, .int .i64 2, .bool false]) (ok := fun _ => True) (okp := fun _ => True) ?hr ?hp (fun _ hk => hk) trivial (Below.refl _ _) (Nat.le_refl _) (by simp) ?_; (case hd => rfl); (case hg => rfl); (case hr => first | (go_simp; done) | (go_simp; rfl)); (case hp => exact (Reps.c3 (show Kd.M k35 _ _ _ (⟨0, 3, false⟩ : S35) [.int .i64 0, .int .i64 3, .bool false] from (k35_mkM _ _ _ (⟨0, 3, false⟩ : S35) )) (Reps.c3 (show Kd.M k35 _ _ _ (⟨3, 3, true⟩ : S35) [.int .i64 3, .int .i64 3, .bool true] from (k35_mkM _ _ _ (⟨3, 3, true⟩ : S35) )) (Reps.c3 (show Kd.M k35 _ _ _ (⟨6, 2, false⟩ : S35) [.int .i64 6, .int .i64 2, .bool false] from (k35_mkM _ _ _ (⟨6, 2, false⟩ : S35) )) (Reps.none _ _))))); intro v171 w26 ho27 hb hg_ hnew_; clear hg_ hnew_; (first | rw [← Ny170.out] at ho27 | (simp only [Int.reduceToNat] at ho27; rw [← Ny170.out] at ho27)); have n0_ := Aside0.mk (Kd.R_lower ho27 (below_size (by repeat (first | (with_reducible first | exact HB.out | apply below_alloc | apply pw_below_drewN | apply below_drew1) | exact HB.out)))); have n1_ := Aside0.mk (below_step (by repeat (first | (with_reducible first | exact HB.out | apply below_alloc | apply pw_below_drewN | apply below_drew1) | exact HB.out)) hb); clear HB; have HO172 := n0_; have HB := n1_; clear n0_ n1_; clear hb ho27; obtain ⟨Ao28, co28, eo28⟩ := Kd.R_slice HO172.out; subst eo28) | ((with_reducible refine gate_callee (f := 16) rfl ?_); refine goesL_ (some 12) rfl rfl Try.func16 (by kernel_rfl) rfl #[.slice Ao28 y170.length co28, .int .i64 1] rfl (by (try simp only [List.map_toArray, List.map_cons, List.map_nil]); first | done | rfl | (simp only [List.length_drop, List.length_take]; rfl)) ?_; (with_reducible refine (merge_Blocks.calls k (fun k_ => some k_ = (.slice Ao28 y170.length co28 : Value).ownBlock) _ _ y170 1 t173 true _ ?side1 A1.out).mono ?_); (case side1 => exact Kd.R_V (Kd.R_tight rfl (HO172.out))); rintro e w29 ⟨v174, rfl, ho0, hb⟩; refine ⟨_, rfl, ?_⟩; have n0_ := Aside0.mk (Kd.R_elder' (by (with_reducible repeat (first | apply Kd.R_alloc | apply Kd.R_drewN | apply Kd.R_drew)); exact HO172.out) (Kd.R_base ho0) hb); have n1_ := Aside0.mk (Kd.R_lower (Kd.R_new' (Kd.R_mono (ok' := fun k_ => True) ho0 (fun _ hk_ => trivial)) (Kd.R_lt (by (with_reducible repeat (first | apply Kd.R_alloc | apply Kd.R_drewN | apply Kd.R_drew)); exact HO172.out))) (below_size (by repeat (first | (with_reducible first | exact HB.out | apply below_alloc | apply pw_below_drewN | apply below_drew1) | exact HB.out)))); have n2_ := Aside0.mk (below_step (by repeat (first | (with_reducible first | exact HB.out | apply below_alloc | apply pw_below_drewN | apply below_drew1) | exact HB.out)) hb); clear HO172; clear HB; have HO172 := n0_; have HO175 := n1_; have HB := n2_; clear n0_ n1_ n2_; (try clear hb); (try clear hb2); (try clear hk); (try clear hi); (try clear ho0)) | ((with_reducible refine gate_callee (f := 18) rfl ?_); refine goesL_ (some 17) rfl rfl Try.func18 (by kernel_rfl) rfl #[.slice Ao28 y170.length co28, .int .i64 1] rfl (by (try simp only [List.map_toArray, List.map_cons, List.map_nil]); first | done | rfl | (simp only [List.length_drop, List.length_take]; rfl)) ?_; (with_reducible refine (merge_Edit.calls k _ _ y170 1 t177 t178 false _ ?side1 ?side2 A2.out).mono ?_); (case side1 => repeat (first | exact (Kd.R_reads' HO172.out).2.2 | (with_reducible refine Kd.C_alloc ?_ _) | (with_reducible refine Kd.C_drewN ?_ _) | (with_reducible refine Kd.C_drew ?_))); (case side2 => exact (Kd.R_reads' HO172.out).2.1); rintro e w30 ⟨rfl, hb⟩; refine ⟨_, rfl, ?_⟩; have n0_ := Aside0.mk (Kd.R_below (by (with_reducible repeat (first | apply Kd.R_alloc | apply Kd.R_drewN | apply Kd.R_drew)); exact HO172.out) hb); have n1_ := Aside0.mk (Kd.R_below (by (with_reducible repeat (first | apply Kd.R_alloc | apply Kd.R_drewN | apply Kd.R_drew)); exact HO175.out) hb); have n2_ := Aside0.mk (below_step (by repeat (first | (with_reducible first | exact HB.out | apply below_alloc | apply pw_below_drewN | apply below_drew1) | exact HB.out)) hb); clear HO172; clear HO175; clear HB; have HO172 := n0_; have HO175 := n1_; have HB := n2_; clear n0_ n1_ n2_; (try clear hb); (try clear hb2); (try clear hk); (try clear hi)) | ((with_reducible refine gate_dst (N := 4) rfl ?_); (try (refine gate_guard (by rfl) ?_; dsimp only)); refine box_event ?hg (N := 4) ?hd (cs := #[.int .i64 0, .int .u64 0]) (t := 30) ?hr ?_; (case hd => rfl); (case hg => rfl); (case hr => first | (go_simp; done) | (go_simp; rfl)); intro gb180 hg w31 hbox hb; have n0_ := Aside0.mk (Kd.R_below (by (with_reducible repeat (first | apply Kd.R_alloc | apply Kd.R_drewN | apply Kd.R_drew)); exact HO172.out) hb); have n1_ := Aside0.mk (Kd.R_below (by (with_reducible repeat (first | apply Kd.R_alloc | apply Kd.R_drewN | apply Kd.R_drew)); exact HO175.out) hb); have n2_ := Aside0.mk (below_step (by repeat (first | (with_reducible first | exact HB.out | apply below_alloc | apply pw_below_drewN | apply below_drew1) | exact HB.out)) hb); have n3_ := Aside0.mk (hbox); have n4_ := Aside0.mk ((by rw [hg]; exact (below_size (by repeat (first | (with_reducible first | exact HB.out | apply below_alloc | apply pw_below_drewN | apply below_drew1) | exact HB.out))) : w.heap.size ≤ gb180)); have n5_ := Aside0.mk ((by rw [hg]; exact (below_size (by repeat (first | (with_reducible first | exact HB.out | apply below_alloc | apply pw_below_drewN | apply below_drew1) | exact HB.out))) : w.heap.size ≤ gb180)); clear HO172; clear HO175; clear HB; have HO172 := n0_; have HO175 := n1_; have HB := n2_; have BK180 := n3_; have GW180 := n4_; have GE180 := n5_; clear n0_ n1_ n2_ n3_ n4_ n5_; clear hb hbox hg; have hcz32_0 : w31.cell? ⟨gb180, 0, none⟩ = some (.int .i64 0) := (blk_cell BK180.out 0).trans rfl; have hcz32_1 : w31.cell? ⟨gb180, 1, none⟩ = some (.int .u64 0) := (blk_cell BK180.out 1).trans rfl; have hfz32_0 := blk_frozen BK180.out 0; have hfz32_1 := blk_frozen BK180.out 1; obtain ⟨Ao33, co33, eo33⟩ := Kd.R_slice HO175.out; subst eo33; have p181 : 0 ≤ (0 : Int) := (by omega); have q181 : 0 < (t173.length : Int) := of_decide_eq_true (by first | (with_reducible assumption) | assumption); obtain ⟨ad181, e181, hx181_0, hx181_1, hx181_2⟩ := at_T35 (Kd.R_reads' HO175.out).2.2 0 p181 q181; (try rw [← Nbq7.out] at hx181_2); cases e181; have qi181 : (0 < t173.length) = True := eq_true (by omega); (try rw [show ((0 : Int)).toNat = 0 from rfl] at hx181_0); (try rw [show 0 * 3 = 0 from rfl] at hx181_0); (try rw [Addr.add_zero'] at hx181_0); (try rw [show ((0 : Int)).toNat = 0 from rfl] at hx181_1); (try rw [show 0 * 3 = 0 from rfl] at hx181_1); (try rw [Addr.add_zero'] at hx181_1); (try rw [show ((0 : Int)).toNat = 0 from rfl] at hx181_2); (try rw [show 0 * 3 = 0 from rfl] at hx181_2); (try rw [Addr.add_zero'] at hx181_2); have hn181_0 : ad181.block ≠ gb180 := Kd.own_blk (Kd.R_ne HO175.out BK180.out (by decide)); have hn181_1 : ad181.block ≠ gb180 := Kd.own_blk (Kd.R_ne HO175.out BK180.out (by decide)); replace hx181_0 := (cell_far (p := ⟨gb180, 0, none⟩) (by first | (rw [add_block]; exact hn181_0) | (show (Addr.add _ _).block ≠ _; rw [add_block]; exact hn181_0) | exact hn181_0) (.int .i64 t177)).trans hx181_0; replace hx181_1 := (cell_far (p := ⟨gb180, 0, none⟩) (by first | (rw [add_block]; exact hn181_0) | (show (Addr.add _ _).block ≠ _; rw [add_block]; exact hn181_0) | exact hn181_0) (.int .i64 t177)).trans hx181_1; replace hx181_2 := (cell_far (p := ⟨gb180, 0, none⟩) (by first | (rw [add_block]; exact hn181_0) | (show (Addr.add _ _).block ≠ _; rw [add_block]; exact hn181_0) | exact hn181_0) (.int .i64 t177)).trans hx181_2; replace hx181_0 := (cell_far (p := ⟨gb180, 1, none⟩) (by first | (rw [add_block]; exact hn181_1) | (show (Addr.add _ _).block ≠ _; rw [add_block]; exact hn181_1) | exact hn181_1) (.int .u64 t178)).trans hx181_0; replace hx181_1 := (cell_far (p := ⟨gb180, 1, none⟩) (by first | (rw [add_block]; exact hn181_1) | (show (Addr.add _ _).block ≠ _; rw [add_block]; exact hn181_1) | exact hn181_1) (.int .u64 t178)).trans hx181_1; replace hx181_2 := (cell_far (p := ⟨gb180, 1, none⟩) (by first | (rw [add_block]; exact hn181_1) | (show (Addr.add _ _).block ≠ _; rw [add_block]; exact hn181_1) | exact hn181_1) (.int .u64 t178)).trans hx181_2; clear hn181_0; clear hn181_1; replace p181 := eq_true p181; replace q181 := eq_true q181; have p182 : 0 ≤ (0 : Int) := (by omega); have q182 : 0 < (t173.length : Int) := of_decide_eq_true (by first | (with_reducible assumption) | assumption); obtain ⟨ad182, e182, hx182_0, hx182_1, hx182_2⟩ := at_T35 (Kd.R_reads' HO175.out).2.2 0 p182 q182; (try rw [← Nbq7.out] at hx182_2); obtain rfl : ad181 = ad182 := (by injection e182); have qi182 : (0 < t173.length) = True := eq_true (by omega); (try rw [show ((0 : Int)).toNat = 0 from rfl] at hx182_0); (try rw [show 0 * 3 = 0 from rfl] at hx182_0); (try rw [Addr.add_zero'] at hx182_0); (try rw [show ((0 : Int)).toNat = 0 from rfl] at hx182_1); (try rw [show 0 * 3 = 0 from rfl] at hx182_1); (try rw [Addr.add_zero'] at hx182_1); (try rw [show ((0 : Int)).toNat = 0 from rfl] at hx182_2); (try rw [show 0 * 3 = 0 from rfl] at hx182_2); (try rw [Addr.add_zero'] at hx182_2); have hn182_0 : ad181.block ≠ gb180 := Kd.own_blk (Kd.R_ne HO175.out BK180.out (by decide)); have hn182_1 : ad181.block ≠ gb180 := Kd.own_blk (Kd.R_ne HO175.out BK180.out (by decide)); replace hx182_0 := (cell_far (p := ⟨gb180, 0, none⟩) (by first | (rw [add_block]; exact hn182_0) | (show (Addr.add _ _).block ≠ _; rw [add_block]; exact hn182_0) | exact hn182_0) (.int .i64 t177)).trans hx182_0; replace hx182_1 := (cell_far (p := ⟨gb180, 0, none⟩) (by first | (rw [add_block]; exact hn182_0) | (show (Addr.add _ _).block ≠ _; rw [add_block]; exact hn182_0) | exact hn182_0) (.int .i64 t177)).trans hx182_1; replace hx182_2 := (cell_far (p := ⟨gb180, 0, none⟩) (by first | (rw [add_block]; exact hn182_0) | (show (Addr.add _ _).block ≠ _; rw [add_block]; exact hn182_0) | exact hn182_0) (.int .i64 t177)).trans hx182_2; replace hx182_0 := (cell_far (p := ⟨gb180, 1, none⟩) (by first | (rw [add_block]; exact hn182_1) | (show (Addr.add _ _).block ≠ _; rw [add_block]; exact hn182_1) | exact hn182_1) (.int .u64 t178)).trans hx182_0; replace hx182_1 := (cell_far (p := ⟨gb180, 1, none⟩) (by first | (rw [add_block]; exact hn182_1) | (show (Addr.add _ _).block ≠ _; rw [add_block]; exact hn182_1) | exact hn182_1) (.int .u64 t178)).trans hx182_1; replace hx182_2 := (cell_far (p := ⟨gb180, 1, none⟩) (by first | (rw [add_block]; exact hn182_1) | (show (Addr.add _ _).block ≠ _; rw [add_block]; exact hn182_1) | exact hn182_1) (.int .u64 t178)).trans hx182_2; clear hn182_0; clear hn182_1; replace p182 := eq_true p182; replace q182 := eq_true q182))
              go_ret
              exact ⟨by first | rfl | (simp [errW_none, errW_some] <;> rfl) | (simp [*, errW_none, errW_some] <;> rfl), by repeat (first | (with_reducible first | exact HB.out | apply below_alloc | apply pw_below_drewN | apply below_drew1 | refine below_set ?_ GE180.out) | exact HB.out)⟩
        · rw [if_neg c6] at H
          have c6b0 : (((rd_T35 t173 0).f1) == 8) = false := beq_eq_false_iff_ne.mpr c6
          have c6b1 : (((rd_T35 t173 0).f1) != 8) = true := bne_iff_ne.mpr c6
          obtain rfl := Option.some.inj H
          go_enter Try.func15, Try.ntmps15
          go_wp2_with (first | ((with_reducible refine gate_dst (N := 9) rfl ?_); (try (refine gate_guard (by rfl) ?_; dsimp only)); refine Kd.R_lit k35 _ 35 ?hg (N := 9) ?hd (xs := ([(⟨0, 3, false⟩ : S35), (⟨3, 3, true⟩ : S35), (⟨6, 2, false⟩ : S35)] : List (S35))) (inner := [.int .i64 0, .int .i64 3, .bool false, .int .i64 3, .int .i64 3, .bool true, .int .i64 6, .int .i64 2, .bool false]) (ok := fun _ => True) (okp := fun _ => True) ?hr ?hp (fun _ hk => hk) trivial (Below.refl _ _) (Nat.le_refl _) (by simp) ?_; (case hd => rfl); (case hg => rfl); (case hr => first | (go_simp; done) | (go_simp; rfl)); (case hp => exact (Reps.c3 (show Kd.M k35 _ _ _ (⟨0, 3, false⟩ : S35) [.int .i64 0, .int .i64 3, .bool false] from (k35_mkM _ _ _ (⟨0, 3, false⟩ : S35) )) (Reps.c3 (show Kd.M k35 _ _ _ (⟨3, 3, true⟩ : S35) [.int .i64 3, .int .i64 3, .bool true] from (k35_mkM _ _ _ (⟨3, 3, true⟩ : S35) )) (Reps.c3 (show Kd.M k35 _ _ _ (⟨6, 2, false⟩ : S35) [.int .i64 6, .int .i64 2, .bool false] from (k35_mkM _ _ _ (⟨6, 2, false⟩ : S35) )) (Reps.none _ _))))); intro v171 w34 ho35 hb hg_ hnew_; clear hg_ hnew_; (first | rw [← Ny170.out] at ho35 | (simp only [Int.reduceToNat] at ho35; rw [← Ny170.out] at ho35)); have n0_ := Aside0.mk (Kd.R_lower ho35 (below_size (by repeat (first | (with_reducible first | exact HB.out | apply below_alloc | apply pw_below_drewN | apply below_drew1) | exact HB.out)))); have n1_ := Aside0.mk (below_step (by repeat (first | (with_reducible first | exact HB.out | apply below_alloc | apply pw_below_drewN | apply below_drew1) | exact HB.out)) hb); clear HB; have HO172 := n0_; have HB := n1_; clear n0_ n1_; clear hb ho35; obtain ⟨Ao36, co36, eo36⟩ := Kd.R_slice HO172.out; subst eo36) | ((with_reducible refine gate_callee (f := 16) rfl ?_); refine goesL_ (some 12) rfl rfl Try.func16 (by kernel_rfl) rfl #[.slice Ao36 y170.length co36, .int .i64 1] rfl (by (try simp only [List.map_toArray, List.map_cons, List.map_nil]); first | done | rfl | (simp only [List.length_drop, List.length_take]; rfl)) ?_; (with_reducible refine (merge_Blocks.calls k (fun k_ => some k_ = (.slice Ao36 y170.length co36 : Value).ownBlock) _ _ y170 1 t173 true _ ?side1 A1.out).mono ?_); (case side1 => exact Kd.R_V (Kd.R_tight rfl (HO172.out))); rintro e w37 ⟨v174, rfl, ho0, hb⟩; refine ⟨_, rfl, ?_⟩; have n0_ := Aside0.mk (Kd.R_elder' (by (with_reducible repeat (first | apply Kd.R_alloc | apply Kd.R_drewN | apply Kd.R_drew)); exact HO172.out) (Kd.R_base ho0) hb); have n1_ := Aside0.mk (Kd.R_lower (Kd.R_new' (Kd.R_mono (ok' := fun k_ => True) ho0 (fun _ hk_ => trivial)) (Kd.R_lt (by (with_reducible repeat (first | apply Kd.R_alloc | apply Kd.R_drewN | apply Kd.R_drew)); exact HO172.out))) (below_size (by repeat (first | (with_reducible first | exact HB.out | apply below_alloc | apply pw_below_drewN | apply below_drew1) | exact HB.out)))); have n2_ := Aside0.mk (below_step (by repeat (first | (with_reducible first | exact HB.out | apply below_alloc | apply pw_below_drewN | apply below_drew1) | exact HB.out)) hb); clear HO172; clear HB; have HO172 := n0_; have HO175 := n1_; have HB := n2_; clear n0_ n1_ n2_; (try clear hb); (try clear hb2); (try clear hk); (try clear hi); (try clear ho0)) | ((with_reducible refine gate_callee (f := 18) rfl ?_); refine goesL_ (some 17) rfl rfl Try.func18 (by kernel_rfl) rfl #[.slice Ao36 y170.length co36, .int .i64 1] rfl (by (try simp only [List.map_toArray, List.map_cons, List.map_nil]); first | done | rfl | (simp only [List.length_drop, List.length_take]; rfl)) ?_; (with_reducible refine (merge_Edit.calls k _ _ y170 1 t177 t178 t179 _ ?side1 ?side2 A2.out).mono ?_); (case side1 => repeat (first | exact (Kd.R_reads' HO172.out).2.2 | (with_reducible refine Kd.C_alloc ?_ _) | (with_reducible refine Kd.C_drewN ?_ _) | (with_reducible refine Kd.C_drew ?_))); (case side2 => exact (Kd.R_reads' HO172.out).2.1); rintro e w38 ⟨rfl, hb⟩; refine ⟨_, rfl, ?_⟩; have n0_ := Aside0.mk (Kd.R_below (by (with_reducible repeat (first | apply Kd.R_alloc | apply Kd.R_drewN | apply Kd.R_drew)); exact HO172.out) hb); have n1_ := Aside0.mk (Kd.R_below (by (with_reducible repeat (first | apply Kd.R_alloc | apply Kd.R_drewN | apply Kd.R_drew)); exact HO175.out) hb); have n2_ := Aside0.mk (below_step (by repeat (first | (with_reducible first | exact HB.out | apply below_alloc | apply pw_below_drewN | apply below_drew1) | exact HB.out)) hb); clear HO172; clear HO175; clear HB; have HO172 := n0_; have HO175 := n1_; have HB := n2_; clear n0_ n1_ n2_; (try clear hb); (try clear hb2); (try clear hk); (try clear hi)) | ((with_reducible refine gate_dst (N := 4) rfl ?_); (try (refine gate_guard (by rfl) ?_; dsimp only)); refine box_event ?hg (N := 4) ?hd (cs := #[.int .i64 0, .int .u64 0]) (t := 30) ?hr ?_; (case hd => rfl); (case hg => rfl); (case hr => first | (go_simp; done) | (go_simp; rfl)); intro gb180 hg w39 hbox hb; have n0_ := Aside0.mk (Kd.R_below (by (with_reducible repeat (first | apply Kd.R_alloc | apply Kd.R_drewN | apply Kd.R_drew)); exact HO172.out) hb); have n1_ := Aside0.mk (Kd.R_below (by (with_reducible repeat (first | apply Kd.R_alloc | apply Kd.R_drewN | apply Kd.R_drew)); exact HO175.out) hb); have n2_ := Aside0.mk (below_step (by repeat (first | (with_reducible first | exact HB.out | apply below_alloc | apply pw_below_drewN | apply below_drew1) | exact HB.out)) hb); have n3_ := Aside0.mk (hbox); have n4_ := Aside0.mk ((by rw [hg]; exact (below_size (by repeat (first | (with_reducible first | exact HB.out | apply below_alloc | apply pw_below_drewN | apply below_drew1) | exact HB.out))) : w.heap.size ≤ gb180)); have n5_ := Aside0.mk ((by rw [hg]; exact (below_size (by repeat (first | (with_reducible first | exact HB.out | apply below_alloc | apply pw_below_drewN | apply below_drew1) | exact HB.out))) : w.heap.size ≤ gb180)); clear HO172; clear HO175; clear HB; have HO172 := n0_; have HO175 := n1_; have HB := n2_; have BK180 := n3_; have GW180 := n4_; have GE180 := n5_; clear n0_ n1_ n2_ n3_ n4_ n5_; clear hb hbox hg; have hcz40_0 : w39.cell? ⟨gb180, 0, none⟩ = some (.int .i64 0) := (blk_cell BK180.out 0).trans rfl; have hcz40_1 : w39.cell? ⟨gb180, 1, none⟩ = some (.int .u64 0) := (blk_cell BK180.out 1).trans rfl; have hfz40_0 := blk_frozen BK180.out 0; have hfz40_1 := blk_frozen BK180.out 1; obtain ⟨Ao41, co41, eo41⟩ := Kd.R_slice HO175.out; subst eo41; have p181 : 0 ≤ (0 : Int) := (by omega); have q181 : 0 < (t173.length : Int) := of_decide_eq_true (by first | (with_reducible assumption) | assumption); obtain ⟨ad181, e181, hx181_0, hx181_1, hx181_2⟩ := at_T35 (Kd.R_reads' HO175.out).2.2 0 p181 q181; cases e181; have qi181 : (0 < t173.length) = True := eq_true (by omega); (try rw [show ((0 : Int)).toNat = 0 from rfl] at hx181_0); (try rw [show 0 * 3 = 0 from rfl] at hx181_0); (try rw [Addr.add_zero'] at hx181_0); (try rw [show ((0 : Int)).toNat = 0 from rfl] at hx181_1); (try rw [show 0 * 3 = 0 from rfl] at hx181_1); (try rw [Addr.add_zero'] at hx181_1); (try rw [show ((0 : Int)).toNat = 0 from rfl] at hx181_2); (try rw [show 0 * 3 = 0 from rfl] at hx181_2); (try rw [Addr.add_zero'] at hx181_2); have hn181_0 : ad181.block ≠ gb180 := Kd.own_blk (Kd.R_ne HO175.out BK180.out (by decide)); have hn181_1 : ad181.block ≠ gb180 := Kd.own_blk (Kd.R_ne HO175.out BK180.out (by decide)); replace hx181_0 := (cell_far (p := ⟨gb180, 0, none⟩) (by first | (rw [add_block]; exact hn181_0) | (show (Addr.add _ _).block ≠ _; rw [add_block]; exact hn181_0) | exact hn181_0) (.int .i64 t177)).trans hx181_0; replace hx181_1 := (cell_far (p := ⟨gb180, 0, none⟩) (by first | (rw [add_block]; exact hn181_0) | (show (Addr.add _ _).block ≠ _; rw [add_block]; exact hn181_0) | exact hn181_0) (.int .i64 t177)).trans hx181_1; replace hx181_2 := (cell_far (p := ⟨gb180, 0, none⟩) (by first | (rw [add_block]; exact hn181_0) | (show (Addr.add _ _).block ≠ _; rw [add_block]; exact hn181_0) | exact hn181_0) (.int .i64 t177)).trans hx181_2; replace hx181_0 := (cell_far (p := ⟨gb180, 1, none⟩) (by first | (rw [add_block]; exact hn181_1) | (show (Addr.add _ _).block ≠ _; rw [add_block]; exact hn181_1) | exact hn181_1) (.int .u64 t178)).trans hx181_0; replace hx181_1 := (cell_far (p := ⟨gb180, 1, none⟩) (by first | (rw [add_block]; exact hn181_1) | (show (Addr.add _ _).block ≠ _; rw [add_block]; exact hn181_1) | exact hn181_1) (.int .u64 t178)).trans hx181_1; replace hx181_2 := (cell_far (p := ⟨gb180, 1, none⟩) (by first | (rw [add_block]; exact hn181_1) | (show (Addr.add _ _).block ≠ _; rw [add_block]; exact hn181_1) | exact hn181_1) (.int .u64 t178)).trans hx181_2; clear hn181_0; clear hn181_1; replace p181 := eq_true p181; replace q181 := eq_true q181))
          go_ret
          exact ⟨by first | rfl | (simp [errW_none, errW_some] <;> rfl) | (simp [*, errW_none, errW_some] <;> rfl), by repeat (first | (with_reducible first | exact HB.out | apply below_alloc | apply pw_below_drewN | apply below_drew1 | refine below_set ?_ GE180.out) | exact HB.out)⟩
      · rw [if_neg c5] at H
        exact absurd H (by simp)
    · rw [if_neg c4] at H
      have c4b0 : ((t173.length : Int) == 1) = false := beq_eq_false_iff_ne.mpr c4
      have c4b1 : ((t173.length : Int) != 1) = true := bne_iff_ne.mpr c4
      obtain rfl := Option.some.inj H
      go_enter Try.func15, Try.ntmps15
      go_wp2_with (first | ((with_reducible refine gate_dst (N := 9) rfl ?_); (try (refine gate_guard (by rfl) ?_; dsimp only)); refine Kd.R_lit k35 _ 35 ?hg (N := 9) ?hd (xs := ([(⟨0, 3, false⟩ : S35), (⟨3, 3, true⟩ : S35), (⟨6, 2, false⟩ : S35)] : List (S35))) (inner := [.int .i64 0, .int .i64 3, .bool false, .int .i64 3, .int .i64 3, .bool true, .int .i64 6, .int .i64 2, .bool false]) (ok := fun _ => True) (okp := fun _ => True) ?hr ?hp (fun _ hk => hk) trivial (Below.refl _ _) (Nat.le_refl _) (by simp) ?_; (case hd => rfl); (case hg => rfl); (case hr => first | (go_simp; done) | (go_simp; rfl)); (case hp => exact (Reps.c3 (show Kd.M k35 _ _ _ (⟨0, 3, false⟩ : S35) [.int .i64 0, .int .i64 3, .bool false] from (k35_mkM _ _ _ (⟨0, 3, false⟩ : S35) )) (Reps.c3 (show Kd.M k35 _ _ _ (⟨3, 3, true⟩ : S35) [.int .i64 3, .int .i64 3, .bool true] from (k35_mkM _ _ _ (⟨3, 3, true⟩ : S35) )) (Reps.c3 (show Kd.M k35 _ _ _ (⟨6, 2, false⟩ : S35) [.int .i64 6, .int .i64 2, .bool false] from (k35_mkM _ _ _ (⟨6, 2, false⟩ : S35) )) (Reps.none _ _))))); intro v171 w42 ho43 hb hg_ hnew_; clear hg_ hnew_; (first | rw [← Ny170.out] at ho43 | (simp only [Int.reduceToNat] at ho43; rw [← Ny170.out] at ho43)); have n0_ := Aside0.mk (Kd.R_lower ho43 (below_size (by repeat (first | (with_reducible first | exact HB.out | apply below_alloc | apply pw_below_drewN | apply below_drew1) | exact HB.out)))); have n1_ := Aside0.mk (below_step (by repeat (first | (with_reducible first | exact HB.out | apply below_alloc | apply pw_below_drewN | apply below_drew1) | exact HB.out)) hb); clear HB; have HO172 := n0_; have HB := n1_; clear n0_ n1_; clear hb ho43; obtain ⟨Ao44, co44, eo44⟩ := Kd.R_slice HO172.out; subst eo44) | ((with_reducible refine gate_callee (f := 16) rfl ?_); refine goesL_ (some 12) rfl rfl Try.func16 (by kernel_rfl) rfl #[.slice Ao44 y170.length co44, .int .i64 1] rfl (by (try simp only [List.map_toArray, List.map_cons, List.map_nil]); first | done | rfl | (simp only [List.length_drop, List.length_take]; rfl)) ?_; (with_reducible refine (merge_Blocks.calls k (fun k_ => some k_ = (.slice Ao44 y170.length co44 : Value).ownBlock) _ _ y170 1 t173 true _ ?side1 A1.out).mono ?_); (case side1 => exact Kd.R_V (Kd.R_tight rfl (HO172.out))); rintro e w45 ⟨v174, rfl, ho0, hb⟩; refine ⟨_, rfl, ?_⟩; have n0_ := Aside0.mk (Kd.R_elder' (by (with_reducible repeat (first | apply Kd.R_alloc | apply Kd.R_drewN | apply Kd.R_drew)); exact HO172.out) (Kd.R_base ho0) hb); have n1_ := Aside0.mk (Kd.R_lower (Kd.R_new' (Kd.R_mono (ok' := fun k_ => True) ho0 (fun _ hk_ => trivial)) (Kd.R_lt (by (with_reducible repeat (first | apply Kd.R_alloc | apply Kd.R_drewN | apply Kd.R_drew)); exact HO172.out))) (below_size (by repeat (first | (with_reducible first | exact HB.out | apply below_alloc | apply pw_below_drewN | apply below_drew1) | exact HB.out)))); have n2_ := Aside0.mk (below_step (by repeat (first | (with_reducible first | exact HB.out | apply below_alloc | apply pw_below_drewN | apply below_drew1) | exact HB.out)) hb); clear HO172; clear HB; have HO172 := n0_; have HO175 := n1_; have HB := n2_; clear n0_ n1_ n2_; (try clear hb); (try clear hb2); (try clear hk); (try clear hi); (try clear ho0)) | ((with_reducible refine gate_callee (f := 18) rfl ?_); refine goesL_ (some 17) rfl rfl Try.func18 (by kernel_rfl) rfl #[.slice Ao44 y170.length co44, .int .i64 1] rfl (by (try simp only [List.map_toArray, List.map_cons, List.map_nil]); first | done | rfl | (simp only [List.length_drop, List.length_take]; rfl)) ?_; (with_reducible refine (merge_Edit.calls k _ _ y170 1 t177 t178 t179 _ ?side1 ?side2 A2.out).mono ?_); (case side1 => repeat (first | exact (Kd.R_reads' HO172.out).2.2 | (with_reducible refine Kd.C_alloc ?_ _) | (with_reducible refine Kd.C_drewN ?_ _) | (with_reducible refine Kd.C_drew ?_))); (case side2 => exact (Kd.R_reads' HO172.out).2.1); rintro e w46 ⟨rfl, hb⟩; refine ⟨_, rfl, ?_⟩; have n0_ := Aside0.mk (Kd.R_below (by (with_reducible repeat (first | apply Kd.R_alloc | apply Kd.R_drewN | apply Kd.R_drew)); exact HO172.out) hb); have n1_ := Aside0.mk (Kd.R_below (by (with_reducible repeat (first | apply Kd.R_alloc | apply Kd.R_drewN | apply Kd.R_drew)); exact HO175.out) hb); have n2_ := Aside0.mk (below_step (by repeat (first | (with_reducible first | exact HB.out | apply below_alloc | apply pw_below_drewN | apply below_drew1) | exact HB.out)) hb); clear HO172; clear HO175; clear HB; have HO172 := n0_; have HO175 := n1_; have HB := n2_; clear n0_ n1_ n2_; (try clear hb); (try clear hb2); (try clear hk); (try clear hi)) | ((with_reducible refine gate_dst (N := 4) rfl ?_); (try (refine gate_guard (by rfl) ?_; dsimp only)); refine box_event ?hg (N := 4) ?hd (cs := #[.int .i64 0, .int .u64 0]) (t := 30) ?hr ?_; (case hd => rfl); (case hg => rfl); (case hr => first | (go_simp; done) | (go_simp; rfl)); intro gb180 hg w47 hbox hb; have n0_ := Aside0.mk (Kd.R_below (by (with_reducible repeat (first | apply Kd.R_alloc | apply Kd.R_drewN | apply Kd.R_drew)); exact HO172.out) hb); have n1_ := Aside0.mk (Kd.R_below (by (with_reducible repeat (first | apply Kd.R_alloc | apply Kd.R_drewN | apply Kd.R_drew)); exact HO175.out) hb); have n2_ := Aside0.mk (below_step (by repeat (first | (with_reducible first | exact HB.out | apply below_alloc | apply pw_below_drewN | apply below_drew1) | exact HB.out)) hb); have n3_ := Aside0.mk (hbox); have n4_ := Aside0.mk ((by rw [hg]; exact (below_size (by repeat (first | (with_reducible first | exact HB.out | apply below_alloc | apply pw_below_drewN | apply below_drew1) | exact HB.out))) : w.heap.size ≤ gb180)); have n5_ := Aside0.mk ((by rw [hg]; exact (below_size (by repeat (first | (with_reducible first | exact HB.out | apply below_alloc | apply pw_below_drewN | apply below_drew1) | exact HB.out))) : w.heap.size ≤ gb180)); clear HO172; clear HO175; clear HB; have HO172 := n0_; have HO175 := n1_; have HB := n2_; have BK180 := n3_; have GW180 := n4_; have GE180 := n5_; clear n0_ n1_ n2_ n3_ n4_ n5_; clear hb hbox hg; have hcz48_0 : w47.cell? ⟨gb180, 0, none⟩ = some (.int .i64 0) := (blk_cell BK180.out 0).trans rfl; have hcz48_1 : w47.cell? ⟨gb180, 1, none⟩ = some (.int .u64 0) := (blk_cell BK180.out 1).trans rfl; have hfz48_0 := blk_frozen BK180.out 0; have hfz48_1 := blk_frozen BK180.out 1; obtain ⟨Ao49, co49, eo49⟩ := Kd.R_slice HO175.out; subst eo49))
      go_ret
      exact ⟨by first | rfl | (simp [errW_none, errW_some] <;> rfl) | (simp [*, errW_none, errW_some] <;> rfl), by repeat (first | (with_reducible first | exact HB.out | apply below_alloc | apply pw_below_drewN | apply below_drew1 | refine below_set ?_ GE180.out) | exact HB.out)⟩
  · replace c3 := Bool.eq_false_iff.mpr c3
    subst c3
    have H1 : (some false) = some r := by rw [if_neg (show ¬ (false = true) by decide)] at H; exact H
    clear H
    have H := H1
    clear H1
    obtain rfl := Option.some.inj H
    go_enter Try.func15, Try.ntmps15
    go_wp2_with (first | ((with_reducible refine gate_dst (N := 9) rfl ?_); (try (refine gate_guard (by rfl) ?_; dsimp only)); refine Kd.R_lit k35 _ 35 ?hg (N := 9) ?hd (xs := ([(⟨0, 3, false⟩ : S35), (⟨3, 3, true⟩ : S35), (⟨6, 2, false⟩ : S35)] : List (S35))) (inner := [.int .i64 0, .int .i64 3, .bool false, .int .i64 3, .int .i64 3, .bool true, .int .i64 6, .int .i64 2, .bool false]) (ok := fun _ => True) (okp := fun _ => True) ?hr ?hp (fun _ hk => hk) trivial (Below.refl _ _) (Nat.le_refl _) (by simp) ?_; (case hd => rfl); (case hg => rfl); (case hr => first | (go_simp; done) | (go_simp; rfl)); (case hp => exact (Reps.c3 (show Kd.M k35 _ _ _ (⟨0, 3, false⟩ : S35) [.int .i64 0, .int .i64 3, .bool false] from (k35_mkM _ _ _ (⟨0, 3, false⟩ : S35) )) (Reps.c3 (show Kd.M k35 _ _ _ (⟨3, 3, true⟩ : S35) [.int .i64 3, .int .i64 3, .bool true] from (k35_mkM _ _ _ (⟨3, 3, true⟩ : S35) )) (Reps.c3 (show Kd.M k35 _ _ _ (⟨6, 2, false⟩ : S35) [.int .i64 6, .int .i64 2, .bool false] from (k35_mkM _ _ _ (⟨6, 2, false⟩ : S35) )) (Reps.none _ _))))); intro v171 w50 ho51 hb hg_ hnew_; clear hg_ hnew_; (first | rw [← Ny170.out] at ho51 | (simp only [Int.reduceToNat] at ho51; rw [← Ny170.out] at ho51)); have n0_ := Aside0.mk (Kd.R_lower ho51 (below_size (by repeat (first | (with_reducible first | exact HB.out | apply below_alloc | apply pw_below_drewN | apply below_drew1) | exact HB.out)))); have n1_ := Aside0.mk (below_step (by repeat (first | (with_reducible first | exact HB.out | apply below_alloc | apply pw_below_drewN | apply below_drew1) | exact HB.out)) hb); clear HB; have HO172 := n0_; have HB := n1_; clear n0_ n1_; clear hb ho51; obtain ⟨Ao52, co52, eo52⟩ := Kd.R_slice HO172.out; subst eo52) | ((with_reducible refine gate_callee (f := 16) rfl ?_); refine goesL_ (some 12) rfl rfl Try.func16 (by kernel_rfl) rfl #[.slice Ao52 y170.length co52, .int .i64 1] rfl (by (try simp only [List.map_toArray, List.map_cons, List.map_nil]); first | done | rfl | (simp only [List.length_drop, List.length_take]; rfl)) ?_; (with_reducible refine (merge_Blocks.calls k (fun k_ => some k_ = (.slice Ao52 y170.length co52 : Value).ownBlock) _ _ y170 1 t173 false _ ?side1 A1.out).mono ?_); (case side1 => exact Kd.R_V (Kd.R_tight rfl (HO172.out))); rintro e w53 ⟨v174, rfl, ho0, hb⟩; refine ⟨_, rfl, ?_⟩; have n0_ := Aside0.mk (Kd.R_elder' (by (with_reducible repeat (first | apply Kd.R_alloc | apply Kd.R_drewN | apply Kd.R_drew)); exact HO172.out) (Kd.R_base ho0) hb); have n1_ := Aside0.mk (Kd.R_lower (Kd.R_new' (Kd.R_mono (ok' := fun k_ => True) ho0 (fun _ hk_ => trivial)) (Kd.R_lt (by (with_reducible repeat (first | apply Kd.R_alloc | apply Kd.R_drewN | apply Kd.R_drew)); exact HO172.out))) (below_size (by repeat (first | (with_reducible first | exact HB.out | apply below_alloc | apply pw_below_drewN | apply below_drew1) | exact HB.out)))); have n2_ := Aside0.mk (below_step (by repeat (first | (with_reducible first | exact HB.out | apply below_alloc | apply pw_below_drewN | apply below_drew1) | exact HB.out)) hb); clear HO172; clear HB; have HO172 := n0_; have HO175 := n1_; have HB := n2_; clear n0_ n1_ n2_; (try clear hb); (try clear hb2); (try clear hk); (try clear hi); (try clear ho0)) | ((with_reducible refine gate_callee (f := 18) rfl ?_); refine goesL_ (some 17) rfl rfl Try.func18 (by kernel_rfl) rfl #[.slice Ao52 y170.length co52, .int .i64 1] rfl (by (try simp only [List.map_toArray, List.map_cons, List.map_nil]); first | done | rfl | (simp only [List.length_drop, List.length_take]; rfl)) ?_; (with_reducible refine (merge_Edit.calls k _ _ y170 1 t177 t178 t179 _ ?side1 ?side2 A2.out).mono ?_); (case side1 => repeat (first | exact (Kd.R_reads' HO172.out).2.2 | (with_reducible refine Kd.C_alloc ?_ _) | (with_reducible refine Kd.C_drewN ?_ _) | (with_reducible refine Kd.C_drew ?_))); (case side2 => exact (Kd.R_reads' HO172.out).2.1); rintro e w54 ⟨rfl, hb⟩; refine ⟨_, rfl, ?_⟩; have n0_ := Aside0.mk (Kd.R_below (by (with_reducible repeat (first | apply Kd.R_alloc | apply Kd.R_drewN | apply Kd.R_drew)); exact HO172.out) hb); have n1_ := Aside0.mk (Kd.R_below (by (with_reducible repeat (first | apply Kd.R_alloc | apply Kd.R_drewN | apply Kd.R_drew)); exact HO175.out) hb); have n2_ := Aside0.mk (below_step (by repeat (first | (with_reducible first | exact HB.out | apply below_alloc | apply pw_below_drewN | apply below_drew1) | exact HB.out)) hb); clear HO172; clear HO175; clear HB; have HO172 := n0_; have HO175 := n1_; have HB := n2_; clear n0_ n1_ n2_; (try clear hb); (try clear hb2); (try clear hk); (try clear hi)) | ((with_reducible refine gate_dst (N := 4) rfl ?_); (try (refine gate_guard (by rfl) ?_; dsimp only)); refine box_event ?hg (N := 4) ?hd (cs := #[.int .i64 0, .int .u64 0]) (t := 30) ?hr ?_; (case hd => rfl); (case hg => rfl); (case hr => first | (go_simp; done) | (go_simp; rfl)); intro gb180 hg w55 hbox hb; have n0_ := Aside0.mk (Kd.R_below (by (with_reducible repeat (first | apply Kd.R_alloc | apply Kd.R_drewN | apply Kd.R_drew)); exact HO172.out) hb); have n1_ := Aside0.mk (Kd.R_below (by (with_reducible repeat (first | apply Kd.R_alloc | apply Kd.R_drewN | apply Kd.R_drew)); exact HO175.out) hb); have n2_ := Aside0.mk (below_step (by repeat (first | (with_reducible first | exact HB.out | apply below_alloc | apply pw_below_drewN | apply below_drew1) | exact HB.out)) hb); have n3_ := Aside0.mk (hbox); have n4_ := Aside0.mk ((by rw [hg]; exact (below_size (by repeat (first | (with_reducible first | exact HB.out | apply below_alloc | apply pw_below_drewN | apply below_drew1) | exact HB.out))) : w.heap.size ≤ gb180)); have n5_ := Aside0.mk ((by rw [hg]; exact (below_size (by repeat (first | (with_reducible first | exact HB.out | apply below_alloc | apply pw_below_drewN | apply below_drew1) | exact HB.out))) : w.heap.size ≤ gb180)); clear HO172; clear HO175; clear HB; have HO172 := n0_; have HO175 := n1_; have HB := n2_; have BK180 := n3_; have GW180 := n4_; have GE180 := n5_; clear n0_ n1_ n2_ n3_ n4_ n5_; clear hb hbox hg; have hcz56_0 : w55.cell? ⟨gb180, 0, none⟩ = some (.int .i64 0) := (blk_cell BK180.out 0).trans rfl; have hcz56_1 : w55.cell? ⟨gb180, 1, none⟩ = some (.int .u64 0) := (blk_cell BK180.out 1).trans rfl; have hfz56_0 := blk_frozen BK180.out 0; have hfz56_1 := blk_frozen BK180.out 1))
    go_ret
    exact ⟨by first | rfl | (simp [errW_none, errW_some] <;> rfl) | (simp [*, errW_none, errW_some] <;> rfl), by repeat (first | (with_reducible first | exact HB.out | apply below_alloc | apply pw_below_drewN | apply below_drew1 | refine below_set ?_ GE180.out) | exact HB.out)⟩

/-! ### darningref4_SameBlocks: function 19 -/
def darningref4_SameBlocks.l0 : Nat → List (S35) → List (S35) → Int → Int → Option (Bool)
  | 0, _, _, _, _ => none
  | k + 1, x0, x1, x12, x13 => if x13 < x12 then (if 0 ≤ x13 then (if x13 < (x0.length : Int) then (if x13 < (x1.length : Int) then (if (!(((rd_T35 x0 x13).f0) == ((rd_T35 x1 x13).f0)) || (!(((rd_T35 x0 x13).f1) == ((rd_T35 x1 x13).f1)) || (!(((rd_T35 x0 x13).f2) == ((rd_T35 x1 x13).f2))))) = true then (some false) else (darningref4_SameBlocks.l0 k x0 x1 x12 (wrap64 (x13 + 1)))) else (none)) else (none)) else (none)) else (some true)
def darningref4_SameBlocks.f (k : Nat) (l0 : List (S35)) (l1 : List (S35)) : Option (Bool) := if (l0.length : Int) = (l1.length : Int) then (darningref4_SameBlocks.l0 k l0 l1 (l0.length : Int) 0) else (some false)
theorem darningref4_SameBlocks.mono_l : ∀ k, (∀ y0 y1 y2 y3, LeO (darningref4_SameBlocks.l0 k y0 y1 y2 y3) (darningref4_SameBlocks.l0 (k + 1) y0 y1 y2 y3))
  | 0 => fun _ _ _ _ r h => by simp [darningref4_SameBlocks.l0] at h
  | k + 1 => by
    have ih0 := darningref4_SameBlocks.mono_l k
    · intro y0 y1 y2 y3
      unfold darningref4_SameBlocks.l0
      repeat' first
      | (with_reducible exact ih0 _ _ _ _)
      | (with_reducible exact LeO.refl _)
      | (with_reducible exact LeO.none _)
      | (with_reducible refine LeO.ite ?_ ?_)
      | (with_reducible refine LeO.bind ?_ (fun _ => ?_))
      | exact ih0 _ _ _ _
      | exact LeO.none _
      | refine LeO.ite ?_ ?_
      | refine LeO.bind ?_ (fun _ => ?_)
theorem darningref4_SameBlocks.mono : ∀ a0 a1 k, LeO (darningref4_SameBlocks.f k a0 a1) (darningref4_SameBlocks.f (k + 1) a0 a1) := by
  intro a0 a1 k
  have ih0 := darningref4_SameBlocks.mono_l k
  unfold darningref4_SameBlocks.f
  repeat' first
      | (with_reducible exact ih0 _ _ _ _)
      | (with_reducible exact LeO.refl _)
      | (with_reducible exact LeO.none _)
      | (with_reducible refine LeO.ite ?_ ?_)
      | (with_reducible refine LeO.bind ?_ (fun _ => ?_))
      | exact ih0 _ _ _ _
      | exact LeO.none _
      | refine LeO.ite ?_ ?_
      | refine LeO.bind ?_ (fun _ => ?_)
set_option maxHeartbeats 8000000 in
set_option maxRecDepth 100000 in
theorem darningref4_SameBlocks.calls (k : Nat) (A0 : Option Addr) (c0 : Nat) (l0 : List (S35)) (A1 : Option Addr) (c1 : Nat) (l1 : List (S35)) (r : Bool) (w : World) (hr0 : Kd.C k35 w A0 l0.length l0) (hc0 : l0.length ≤ c0) (hr1 : Kd.C k35 w A1 l1.length l1) (hc1 : l1.length ≤ c1) (h : darningref4_SameBlocks.f k l0 l1 = some r) :
    Calls Try.prog 19 #[.slice A0 l0.length c0, .slice A1 l1.length c1] w fun e w' => e = .returned (.bool r) ∧ Drawn0 w w' := by
  have hu35 := Try.underlying35
  have HR0 := Aside0.mk hr0
  have HC0 := Aside0.mk hc0
  clear hr0 hc0
  have HR1 := Aside0.mk hr1
  have HC1 := Aside0.mk hc1
  clear hr1 hc1
  have H : (if (l0.length : Int) = (l1.length : Int) then (darningref4_SameBlocks.l0 k l0 l1 (l0.length : Int) 0) else (some false)) = some r := h
  clear h
  by_cases c3 : (l0.length : Int) = (l1.length : Int)
  · rw [if_pos c3] at H
    have c3b0 : ((l0.length : Int) == (l1.length : Int)) = true := beq_iff_eq.mpr c3
    have c3b1 : ((l0.length : Int) != (l1.length : Int)) = false := bne_eq_false_iff_eq.mpr c3
    have c3b2 : (l0.length == l1.length) = true := by first | simpa using c3 | (simp at c3 ⊢; omega)
    clear c3
    have H' := Aside0.mk H
    clear H
    go_enter Try.func19, Try.ntmps19
    go_wp2
    repeat (go_quiet (fail); try go_wp2)
    go_loopg [13] k (fun kq v13 w' => ∃ (x13_1 : Int), v13 = .int .i64 x13_1 ∧ Aside0 (darningref4_SameBlocks.l0 kq l0 l1 (l0.length : Int) x13_1 = some r) ∧ Aside0 (kq ≤ k) ∧ Drawn0 w w')
    case atStart => exact ⟨(0), (by first | rfl | (simp; done) | (simp [*]; done)), H', ⟨Nat.le_refl _⟩, by repeat (first | exact Drawn0.refl _ | apply Drawn0.step)⟩
    case round =>
      clear H'
      try clear c1
      try clear p2
      try clear c3
      try clear c3b0
      try clear c3b1
      try clear c3b2
      obtain ⟨x13_1, rfl, HA, HK1, ⟨m1, rfl⟩⟩ := hrel
      cases gk with
      | zero => exact absurd HA.out (by simp [darningref4_SameBlocks.l0])
      | succ k1 =>
        have H := HA.out
        clear HA
        simp only [darningref4_SameBlocks.l0] at H
        by_cases c4 : x13_1 < (l0.length : Int)
        · rw [if_pos c4] at H
          have c4b0 : decide (x13_1 < (l0.length : Int)) = true := decide_eq_true c4
          clear c4
          by_cases c5 : 0 ≤ x13_1
          · rw [if_pos c5] at H
            have c5b0 : decide (0 ≤ x13_1) = true := decide_eq_true c5
            clear c5
            by_cases c6 : x13_1 < (l0.length : Int)
            · rw [if_pos c6] at H
              have c6b0 : decide (x13_1 < (l0.length : Int)) = true := decide_eq_true c6
              clear c6
              by_cases c7 : x13_1 < (l1.length : Int)
              · rw [if_pos c7] at H
                have c7b0 : decide (x13_1 < (l1.length : Int)) = true := decide_eq_true c7
                clear c7
                by_cases c8 : (!(((rd_T35 l0 x13_1).f0) == ((rd_T35 l1 x13_1).f0)) || (!(((rd_T35 l0 x13_1).f1) == ((rd_T35 l1 x13_1).f1)) || (!(((rd_T35 l0 x13_1).f2) == ((rd_T35 l1 x13_1).f2))))) = true
                · rw [if_pos c8] at H
                  have c8b0 : (!(((rd_T35 l0 x13_1).f0) == ((rd_T35 l1 x13_1).f0)) || (!(((rd_T35 l0 x13_1).f1) == ((rd_T35 l1 x13_1).f1)) || (!(((rd_T35 l0 x13_1).f2) == ((rd_T35 l1 x13_1).f2))))) = true := c8
                  clear c8
                  obtain rfl := Option.some.inj H
                  have p183 : 0 ≤ (x13_1 : Int) := of_decide_eq_true (by first | (with_reducible assumption) | assumption)
                  have q183 : x13_1 < (l0.length : Int) := of_decide_eq_true (by first | (with_reducible assumption) | assumption)
                  obtain ⟨ad183, e183, hx183_0, hx183_1, hx183_2⟩ := at_T35 HR0.out x13_1 p183 q183
                  cases e183
                  replace p183 := eq_true p183
                  replace q183 := eq_true q183
                  have p184 : 0 ≤ (x13_1 : Int) := of_decide_eq_true (by first | (with_reducible assumption) | assumption)
                  have q184 : x13_1 < (l1.length : Int) := of_decide_eq_true (by first | (with_reducible assumption) | assumption)
                  obtain ⟨ad184, e184, hx184_0, hx184_1, hx184_2⟩ := at_T35 HR1.out x13_1 p184 q184
                  cases e184
                  replace p184 := eq_true p184
                  replace q184 := eq_true q184
                  go_wp2
                  repeat (go_quiet (fail); try go_wp2)
                  go_ret
                  exact ⟨by first | rfl | (simp; done) | (simp [*]; done), by repeat (first | exact Drawn0.refl _ | apply Drawn0.step)⟩
                · rw [if_neg c8] at H
                  have c8b0 : (!(((rd_T35 l0 x13_1).f0) == ((rd_T35 l1 x13_1).f0)) || (!(((rd_T35 l0 x13_1).f1) == ((rd_T35 l1 x13_1).f1)) || (!(((rd_T35 l0 x13_1).f2) == ((rd_T35 l1 x13_1).f2))))) = false := by simpa using c8
                  clear c8
                  have H' := Aside0.mk H
                  clear H
                  have p183 : 0 ≤ (x13_1 : Int) := of_decide_eq_true (by first | (with_reducible assumption) | assumption)
                  have q183 : x13_1 < (l0.length : Int) := of_decide_eq_true (by first | (with_reducible assumption) | assumption)
                  obtain ⟨ad183, e183, hx183_0, hx183_1, hx183_2⟩ := at_T35 HR0.out x13_1 p183 q183
                  cases e183
                  replace p183 := eq_true p183
                  replace q183 := eq_true q183
                  have p184 : 0 ≤ (x13_1 : Int) := of_decide_eq_true (by first | (with_reducible assumption) | assumption)
                  have q184 : x13_1 < (l1.length : Int) := of_decide_eq_true (by first | (with_reducible assumption) | assumption)
                  obtain ⟨ad184, e184, hx184_0, hx184_1, hx184_2⟩ := at_T35 HR1.out x13_1 p184 q184
                  cases e184
                  replace p184 := eq_true p184
                  replace q184 := eq_true q184
                  go_wp2
                  repeat (go_quiet (fail); try go_wp2)
                  go_roundg k1
                  case measure => have := HK1.out; omega
                  case rel => exact ⟨(wrap64 (x13_1 + 1)), (by first | rfl | (simp; done) | (simp [*]; done)), H', ⟨by have := HK1.out; omega⟩, by repeat (first | exact Drawn0.refl _ | apply Drawn0.step)⟩
              · rw [if_neg c7] at H
                exact absurd H (by simp)
            · rw [if_neg c6] at H
              exact absurd H (by simp)
          · rw [if_neg c5] at H
            exact absurd H (by simp)
        · rw [if_neg c4] at H
          have c4b0 : decide (x13_1 < (l0.length : Int)) = false := decide_eq_false c4
          clear c4
          obtain rfl := Option.some.inj H
          go_wp2
          repeat (go_quiet (fail); try go_wp2)
          go_ret
          exact ⟨by first | rfl | (simp; done) | (simp [*]; done), by repeat (first | exact Drawn0.refl _ | apply Drawn0.step)⟩
  · rw [if_neg c3] at H
    have c3b0 : ((l0.length : Int) == (l1.length : Int)) = false := beq_eq_false_iff_ne.mpr c3
    have c3b1 : ((l0.length : Int) != (l1.length : Int)) = true := bne_iff_ne.mpr c3
    have c3b2 : (l0.length == l1.length) = false := by first | simpa using c3 | (simp at c3 ⊢; omega)
    obtain rfl := Option.some.inj H
    go_enter Try.func19, Try.ntmps19
    go_wp2
    repeat (go_quiet (fail); try go_wp2)
    go_ret
    exact ⟨by first | rfl | (simp; done) | (simp [*]; done), by repeat (first | exact Drawn0.refl _ | apply Drawn0.step)⟩

/-! ### darningref4_MaySize: function 62 -/
def darningref4_MaySize.f (a0 : Int) : Option (Bool) := if a0 ≥ 2 then (some (decide (a0 ≤ 512))) else (some false)
set_option maxHeartbeats 8000000 in
set_option maxRecDepth 100000 in
theorem darningref4_MaySize.calls (a0 : Int) (r : Bool) (w : World) (h : darningref4_MaySize.f a0 = some r) :
    Calls Try.prog 62 #[.int .i64 a0] w fun e w' => e = .returned (.bool r) ∧ Drawn0 w w' := by
  have H : (if a0 ≥ 2 then (some (decide (a0 ≤ 512))) else (some false)) = some r := h
  clear h
  by_cases c2 : a0 ≥ 2
  · rw [if_pos c2] at H
    have c2b0 : decide (2 ≤ a0) = true := decide_eq_true c2
    clear c2
    obtain rfl := Option.some.inj H
    go_enter Try.func62, Try.ntmps62
    go_wp2
    go_ret
    exact ⟨by first | rfl | (simp; done) | (simp [*]; done), by repeat (first | exact Drawn0.refl _ | apply Drawn0.step)⟩
  · rw [if_neg c2] at H
    have c2b0 : decide (2 ≤ a0) = false := decide_eq_false c2
    clear c2
    obtain rfl := Option.some.inj H
    go_enter Try.func62, Try.ntmps62
    go_wp2
    go_ret
    exact ⟨by first | rfl | (simp; done) | (simp [*]; done), by repeat (first | exact Drawn0.refl _ | apply Drawn0.step)⟩

/-! ### darningref4_mayWords: function 63 -/
def darningref4_mayWords.f (a0 : Int) : Option (Bool) := if a0 ≥ 8 then (if a0 ≤ 512 then (some ((Int.tmod a0 8) == 0)) else (some false)) else (some false)
set_option maxHeartbeats 8000000 in
set_option maxRecDepth 100000 in
theorem darningref4_mayWords.calls (a0 : Int) (r : Bool) (w : World) (h : darningref4_mayWords.f a0 = some r) :
    Calls Try.prog 63 #[.int .i64 a0] w fun e w' => e = .returned (.bool r) ∧ Drawn0 w w' := by
  have H : (if a0 ≥ 8 then (if a0 ≤ 512 then (some ((Int.tmod a0 8) == 0)) else (some false)) else (some false)) = some r := h
  clear h
  by_cases c2 : a0 ≥ 8
  · rw [if_pos c2] at H
    have c2b0 : decide (8 ≤ a0) = true := decide_eq_true c2
    clear c2
    by_cases c3 : a0 ≤ 512
    · rw [if_pos c3] at H
      have c3b0 : decide (a0 ≤ 512) = true := decide_eq_true c3
      clear c3
      obtain rfl := Option.some.inj H
      go_enter Try.func63, Try.ntmps63
      go_wp2
      go_ret
      exact ⟨by first | rfl | (simp; done) | (simp [*]; done), by repeat (first | exact Drawn0.refl _ | apply Drawn0.step)⟩
    · rw [if_neg c3] at H
      have c3b0 : decide (a0 ≤ 512) = false := decide_eq_false c3
      clear c3
      obtain rfl := Option.some.inj H
      go_enter Try.func63, Try.ntmps63
      go_wp2
      go_ret
      exact ⟨by first | rfl | (simp; done) | (simp [*]; done), by repeat (first | exact Drawn0.refl _ | apply Drawn0.step)⟩
  · rw [if_neg c2] at H
    have c2b0 : decide (8 ≤ a0) = false := decide_eq_false c2
    clear c2
    obtain rfl := Option.some.inj H
    go_enter Try.func63, Try.ntmps63
    go_wp2
    go_ret
    exact ⟨by first | rfl | (simp; done) | (simp [*]; done), by repeat (first | exact Drawn0.refl _ | apply Drawn0.step)⟩

end Go.Proofs.Ytglekonhdjploaa.XMergeBack
