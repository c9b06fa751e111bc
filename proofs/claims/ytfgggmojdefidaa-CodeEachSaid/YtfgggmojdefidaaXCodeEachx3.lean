-- Laid by this session's own printer (wip/xprint.py): each Go function that the law reaches as a plain Lean function, and that the call comes to it.
import Derived.Test.YtfgggmojdefidaaXCodeEachx0
import Derived.Test.YtfgggmojdefidaaXCodeEachx1
import Derived.Test.YtfgggmojdefidaaXCodeEachx2
namespace Go.Proofs.Ytfgggmojdefidaa.XCodeEach
open Go.RowKit Go.Proofs.YtfgggmojdefidaaW.PrintWords Go.Proofs.YtfgggmojdefidaaW.PrintLast Go.Proofs.YtfgggmojdefidaaW.PrintMore
attribute [local go_sem] max2_int min2_int max_two min_two max_three min_three max_four min_four   -- for this text's walks alone
set_option linter.unusedVariables false
set_option linter.unusedSimpArgs false

/-! ### code_Encode: function 16 -/
def code_Encode.l0 : Nat → List Int → List (S26) → Int → Int → Option (List Int × Bool)
 | 0, _, _, _, _ => none
 | k + 1, x4, x7, x8, x9 => if x9 < x8 then (if 0 ≤ x9 then (if x9 < (x7.length : Int) then ((code_May.f k ((rd_T26 x7 x9).f0) ((rd_T26 x7 x9).f1) ((rd_T26 x7 x9).f2) ((rd_T26 x7 x9).f3) ((rd_T26 x7 x9).f4)).bind fun t138 => (if t138 = true then ((code_bytes.f ((rd_T26 x7 x9).f0) ((rd_T26 x7 x9).f1) ((rd_T26 x7 x9).f2) ((rd_T26 x7 x9).f3) ((rd_T26 x7 x9).f4)).bind fun t139 => (if x4.length + t139.length < 140737488355328 then ((some (x4 ++ t139 : List Int)).bind fun y142 => (if y142.length + ((rd_T26 x7 x9).f4).length < 140737488355328 then (code_Encode.l0 k (y142 ++ ((rd_T26 x7 x9).f4)) x7 x8 (wrap64 (x9 + 1))) else (none))) else (none))) else (some (([] : List Int), false)))) else (none)) else (none)) else (some (x4, true))
def code_Encode.f (k : Nat) (l0 : List (S26)) : Option (List Int × Bool) := code_Encode.l0 k ([] : List Int) l0 (l0.length : Int) 0
theorem code_Encode.mono_l : ∀ k, (∀ y0 y1 y2 y3, LeO (code_Encode.l0 k y0 y1 y2 y3) (code_Encode.l0 (k + 1) y0 y1 y2 y3))
 | 0 => fun _ _ _ _ r h => by simp [code_Encode.l0] at h
 | k + 1 => by
  have ih0 := code_Encode.mono_l k
  ·
   intro y0 y1 y2 y3
   unfold code_Encode.l0
   repeat' first
   | (with_reducible exact ih0 _ _ _ _)
   | (with_reducible exact code_May.mono _ _ _ _ _ _)
   | (with_reducible exact LeO.refl _)
   | (with_reducible exact LeO.none _)
   | (with_reducible refine LeO.ite ?_ ?_)
   | (with_reducible refine LeO.bind ?_ (fun _ => ?_))
   | exact ih0 _ _ _ _
   | exact code_May.mono _ _ _ _ _ _
   | exact LeO.none _
   | refine LeO.ite ?_ ?_
   | refine LeO.bind ?_ (fun _ => ?_)
theorem code_Encode.mono : ∀ a0 k, LeO (code_Encode.f k a0) (code_Encode.f (k + 1) a0) := by
 intro a0 k
 have ih0 := code_Encode.mono_l k
 unfold code_Encode.f
 repeat' first
   | (with_reducible exact ih0 _ _ _ _)
   | (with_reducible exact code_May.mono _ _ _ _ _ _)
   | (with_reducible exact LeO.refl _)
   | (with_reducible exact LeO.none _)
   | (with_reducible refine LeO.ite ?_ ?_)
   | (with_reducible refine LeO.bind ?_ (fun _ => ?_))
   | exact ih0 _ _ _ _
   | exact code_May.mono _ _ _ _ _ _
   | exact LeO.none _
   | refine LeO.ite ?_ ?_
   | refine LeO.bind ?_ (fun _ => ?_)
def code_Encode.T7 : Bool × List (List Nat × List Nat) := (true, [([], []), ([], []), ([1], [1]), ([0, 2, 2], [0, 2]), ([], []), ([4], [4]), ([3, 5, 3], [3, 5]), ([6, 6, 0, 1, 2, 3, 4, 5, 6], [0, 6])])
def code_Encode.B7 : List Nat := [0, 0, 2, 7, 0, 16, 63, 127]
theorem code_Encode.tab7 : rtab .any (opsOf Try.f16 7) = code_Encode.T7 := by kernel_rfl
theorem code_Encode.bits7 : waitsOk code_Encode.T7.2 code_Encode.B7 = true := by kernel_rfl
set_option maxHeartbeats 8000000 in
set_option maxRecDepth 100000 in
theorem code_Encode.calls (k : Nat) (A0 : Option Addr) (c0 : Nat) (l0 : List (S26)) (r1 : List Int) (r2 : Bool) (w : World) (hr0 : Kd.C k26 w A0 l0.length l0) (hc0 : l0.length ≤ c0) (h : code_Encode.f k l0 = some (r1, r2)) :
  Calls Try.prog 16 #[.slice A0 l0.length c0] w fun e w' => ∃ v0_ : Value, e = .returned (.tuple #[v0_, .bool r2]) ∧ Kd.R (Kd.int .u8) 5 w' w.heap.size (fun _ => True) v0_ r1 ∧ Below w.heap.size w w' := by
 have hu26 := Try.underlying26
 have HR0 := Aside0.mk hr0
 have HC0 := Aside0.mk hc0
 clear hr0 hc0
 have HB := Aside0.mk (Below.refl w.heap.size w)
 have H : (code_Encode.l0 k ([] : List Int) l0 (l0.length : Int) 0) = some (r1, r2) := h
 clear h
 have H' := Aside0.mk H
 clear H
 go_enter Try.func16, Try.ntmps16
 go_wp2
 go_loopg [4, 9] k (fun kq v4 v9 w' => ∃ (x4_1 : List Int) (x9_1 : Int), v9 = .int .i64 x9_1 ∧ Aside0 (code_Encode.l0 kq x4_1 l0 (l0.length : Int) x9_1 = some (r1, r2)) ∧ Aside0 (kq ≤ k) ∧ Aside0 (Kd.R (Kd.int .u8) 5 w' w.heap.size (fun _ => True) v4 x4_1) ∧ Aside0 (Below w.heap.size w w'))
 case atStart => exact ⟨(([] : List Int)), (0), (by first | rfl | (simp; done) | (simp [*]; done)), H', ⟨Nat.le_refl _⟩, ⟨by first | exact Kd.R_nil _ _ _ _ _ | exact Kd.N_nil _ _ _ _ _ | exact Kd.V_nil _ _ _ _ _ | exact Kd.Q_nil _ _ _ _ _ | exact Kd.S_nil _ _ _ _ _⟩, ⟨by repeat (first | (with_reducible first | exact HB.out | apply below_alloc | apply pw_below_drewN | apply below_drew1) | exact HB.out)⟩⟩
 case round =>
  clear H'
  try clear c1
  obtain ⟨x4_1, x9_1, rfl, HA, HK1, HO_4, HB⟩ := hrel
  cases gk with
  | zero => exact absurd HA.out (by simp [code_Encode.l0])
  | succ k1 =>
   have H := HA.out
   clear HA
   simp only [code_Encode.l0] at H
   by_cases c2 : x9_1 < (l0.length : Int)
   ·
    rw [if_pos c2] at H
    have c2b0 : decide (x9_1 < (l0.length : Int)) = true := decide_eq_true c2
    clear c2
    by_cases c3 : 0 ≤ x9_1
    ·
     rw [if_pos c3] at H
     have c3b0 : decide (0 ≤ x9_1) = true := decide_eq_true c3
     clear c3
     by_cases c4 : x9_1 < (l0.length : Int)
     ·
      rw [if_pos c4] at H
      have c4b0 : decide (x9_1 < (l0.length : Int)) = true := decide_eq_true c4
      clear c4
      replace H := Option.bind_eq_some_iff.mp H
      obtain ⟨t138, A50, H⟩ := H
      replace H : (if t138 = true then ((code_bytes.f ((rd_T26 l0 x9_1).f0) ((rd_T26 l0 x9_1).f1) ((rd_T26 l0 x9_1).f2) ((rd_T26 l0 x9_1).f3) ((rd_T26 l0 x9_1).f4)).bind fun t139 => (if x4_1.length + t139.length < 140737488355328 then ((some (x4_1 ++ t139 : List Int)).bind fun y142 => (if y142.length + ((rd_T26 l0 x9_1).f4).length < 140737488355328 then (code_Encode.l0 k1 (y142 ++ ((rd_T26 l0 x9_1).f4)) l0 (l0.length : Int) (wrap64 (x9_1 + 1))) else (none))) else (none))) else (some (([] : List Int), false))) = some (r1, r2) := H
      have A5 := Aside0.mk A50
      clear A50
      by_cases c6 : t138 = true
      ·
       subst c6
       have H1 : ((code_bytes.f ((rd_T26 l0 x9_1).f0) ((rd_T26 l0 x9_1).f1) ((rd_T26 l0 x9_1).f2) ((rd_T26 l0 x9_1).f3) ((rd_T26 l0 x9_1).f4)).bind fun t139 => (if x4_1.length + t139.length < 140737488355328 then ((some (x4_1 ++ t139 : List Int)).bind fun y142 => (if y142.length + ((rd_T26 l0 x9_1).f4).length < 140737488355328 then (code_Encode.l0 k1 (y142 ++ ((rd_T26 l0 x9_1).f4)) l0 (l0.length : Int) (wrap64 (x9_1 + 1))) else (none))) else (none))) = some (r1, r2) := by rw [if_pos rfl] at H; exact H
       clear H
       have H := H1
       clear H1
       replace H := Option.bind_eq_some_iff.mp H
       obtain ⟨t139, A70, H⟩ := H
       replace H : (if x4_1.length + t139.length < 140737488355328 then ((some (x4_1 ++ t139 : List Int)).bind fun y142 => (if y142.length + ((rd_T26 l0 x9_1).f4).length < 140737488355328 then (code_Encode.l0 k1 (y142 ++ ((rd_T26 l0 x9_1).f4)) l0 (l0.length : Int) (wrap64 (x9_1 + 1))) else (none))) else (none)) = some (r1, r2) := H
       have A7 := Aside0.mk A70
       clear A70
       by_cases c8 : x4_1.length + t139.length < 140737488355328
       ·
        rw [if_pos c8] at H
        have LMc8 := Aside0.mk c8
        clear c8
        obtain ⟨y142, hy142⟩ : ∃ y_ : List Int, y_ = (x4_1 ++ t139) := ⟨_, rfl⟩
        replace H : (if y142.length + ((rd_T26 l0 x9_1).f4).length < 140737488355328 then (code_Encode.l0 k1 (y142 ++ ((rd_T26 l0 x9_1).f4)) l0 (l0.length : Int) (wrap64 (x9_1 + 1))) else (none)) = some (r1, r2) := by first | (rw [hy142]; with_reducible exact H) | (have H2_ := (Option.bind_some _ _).symm.trans H; rw [hy142]; with_reducible exact H2_) | (have H2_ := (Option.bind_some _ _).symm.trans H; with_reducible exact H2_) | with_reducible exact H | (rw [hy142]; exact H) | exact H
        have Ny142 := Aside0.mk hy142
        clear hy142
        by_cases c9 : y142.length + ((rd_T26 l0 x9_1).f4).length < 140737488355328
        ·
         rw [if_pos c9] at H
         have LMc9 := Aside0.mk c9
         clear c9
         obtain ⟨y145, hy145⟩ : ∃ y_ : List Int, y_ = (y142 ++ ((rd_T26 l0 x9_1).f4)) := ⟨_, rfl⟩
         replace H : (code_Encode.l0 k1 y145 l0 (l0.length : Int) (wrap64 (x9_1 + 1))) = some (r1, r2) := by first | (rw [hy145]; with_reducible exact H) | (have H2_ := (Option.bind_some _ _).symm.trans H; rw [hy145]; with_reducible exact H2_) | (have H2_ := (Option.bind_some _ _).symm.trans H; with_reducible exact H2_) | with_reducible exact H | (rw [hy145]; exact H) | exact H
         have Ny145 := Aside0.mk hy145
         clear hy145
         have H' := Aside0.mk H
         clear H
         have p136 : 0 ≤ (x9_1 : Int) := of_decide_eq_true (by first | (with_reducible assumption) | assumption)
         have q136 : x9_1 < (l0.length : Int) := of_decide_eq_true (by first | (with_reducible assumption) | assumption)
         obtain ⟨ad136, A136_4, c136_4, e136, hx136_0, hx136_1, hx136_2, hx136_3, hx136_4, hl136_4, hi136_4⟩ := at_T26 HR0.out x9_1 p136 q136
         cases e136
         replace hx136_0 := (HB.out.cell (World.block_lt_of_cell? w _ hx136_0)).trans hx136_0
         replace hx136_1 := (HB.out.cell (World.block_lt_of_cell? w _ hx136_1)).trans hx136_1
         replace hx136_2 := (HB.out.cell (World.block_lt_of_cell? w _ hx136_2)).trans hx136_2
         replace hx136_3 := (HB.out.cell (World.block_lt_of_cell? w _ hx136_3)).trans hx136_3
         replace hx136_4 := (HB.out.cell (World.block_lt_of_cell? w _ hx136_4)).trans hx136_4
         have HR136_4 := Aside0.mk hi136_4
         have HC136_4 := Aside0.mk hl136_4
         clear hi136_4 hl136_4
         replace p136 := eq_true p136
         replace q136 := eq_true q136
         try go_wp2_with (first | ((with_reducible refine gate_dst (N := 6) rfl ?_); refine box_event ?hg (N := 6) ?hd (cs := #[.int .i64 0, .int .i64 0, .int .i64 0, .int .i64 0, .slice none 0 0]) (t := 26) ?hr ?_; (case hd => rfl); (case hg => rfl); (case hr => first | (go_simp; done) | (go_simp; rfl)); intro gb137 hg w10 hbox hb; have n0_ := Aside0.mk (Kd.R_below (by (with_reducible repeat (first | apply Kd.R_alloc | apply Kd.R_drewN | apply Kd.R_drew)); exact HO_4.out) hb); have n1_ := Aside0.mk (below_step (by repeat (first | (with_reducible first | exact HB.out | apply below_alloc | apply pw_below_drewN | apply below_drew1) | exact HB.out)) hb); have n2_ := Aside0.mk (hbox); have n3_ := Aside0.mk ((by rw [hg]; exact (below_size (by repeat (first | (with_reducible first | exact HB.out | apply below_alloc | apply pw_below_drewN | apply below_drew1) | exact HB.out))) : w.heap.size ≤ gb137)); have n4_ := Aside0.mk ((by rw [hg]; exact (below_size (by repeat (first | (with_reducible first | exact HB.out | apply below_alloc | apply pw_below_drewN | apply below_drew1) | exact HB.out))) : w.heap.size ≤ gb137)); clear HO_4; clear HB; have HO_4 := n0_; have HB := n1_; have BK137 := n2_; have GW137 := n3_; have GE137 := n4_; clear n0_ n1_ n2_ n3_ n4_; clear hb hbox hg; have hcz11_0 : w10.cell? ⟨gb137, 0, none⟩ = some (.int .i64 0) := (blk_cell BK137.out 0).trans rfl; have hcz11_1 : w10.cell? ⟨gb137, 1, none⟩ = some (.int .i64 0) := (blk_cell BK137.out 1).trans rfl; have hcz11_2 : w10.cell? ⟨gb137, 2, none⟩ = some (.int .i64 0) := (blk_cell BK137.out 2).trans rfl; have hcz11_3 : w10.cell? ⟨gb137, 3, none⟩ = some (.int .i64 0) := (blk_cell BK137.out 3).trans rfl; have hcz11_4 : w10.cell? ⟨gb137, 4, none⟩ = some (.slice none 0 0) := (blk_cell BK137.out 4).trans rfl; have hfz11_0 := blk_frozen BK137.out 0; have hfz11_1 := blk_frozen BK137.out 1; have hfz11_2 := blk_frozen BK137.out 2; have hfz11_3 := blk_frozen BK137.out 3; have hfz11_4 := blk_frozen BK137.out 4) | ((with_reducible refine gate_callee (f := 14) rfl ?_); refine goesL_ (some 14) rfl rfl Try.func14 (by kernel_rfl) rfl #[.agg #[.int .i64 ((rd_T26 l0 x9_1).f0), .int .i64 ((rd_T26 l0 x9_1).f1), .int .i64 ((rd_T26 l0 x9_1).f2), .int .i64 ((rd_T26 l0 x9_1).f3), .slice A136_4 ((rd_T26 l0 x9_1).f4).length c136_4]] rfl (by (try simp only [List.map_toArray, List.map_cons, List.map_nil]); first | done | rfl | (simp only [List.length_drop, List.length_take]; rfl)) ?_; (with_reducible refine (code_May.calls k1 ((rd_T26 l0 x9_1).f0) ((rd_T26 l0 x9_1).f1) ((rd_T26 l0 x9_1).f2) ((rd_T26 l0 x9_1).f3) _ _ ((rd_T26 l0 x9_1).f4) true _ ?side1 ?side2 A5.out).mono ?_); (case side1 => exact Kd.C_below HR136_4.out (by repeat (first | (with_reducible first | exact HB.out | apply below_alloc | apply pw_below_drewN | apply below_drew1 | refine below_set ?_ GE137.out) | exact HB.out))); (case side2 => exact HC136_4.out); rintro e w12 ⟨rfl, hb⟩; refine ⟨_, rfl, ?_⟩; have n0_ := Aside0.mk (Kd.R_below (by (with_reducible repeat (first | apply Kd.R_alloc | apply Kd.R_drewN | apply Kd.R_drew)); exact (Kd.R_mono (Kd.R_far (p := ⟨gb137, 4, none⟩) (Kd.R_far (p := ⟨gb137, 3, none⟩) (Kd.R_far (p := ⟨gb137, 2, none⟩) (Kd.R_far (p := ⟨gb137, 1, none⟩) (Kd.R_far (p := ⟨gb137, 0, none⟩) (Kd.R_types HO_4.out BK137.out (by decide)) (fun _ hk => hk.2) (.int .i64 ((rd_T26 l0 x9_1).f0))) (fun _ hk => hk.2) (.int .i64 ((rd_T26 l0 x9_1).f1))) (fun _ hk => hk.2) (.int .i64 ((rd_T26 l0 x9_1).f2))) (fun _ hk => hk.2) (.int .i64 ((rd_T26 l0 x9_1).f3))) (fun _ hk => hk.2) (.slice A136_4 ((rd_T26 l0 x9_1).f4).length c136_4)) (fun _ h_ => h_.1))) hb); have n1_ := Aside0.mk (blk_below (g := gb137) (o := .cells #[.int .i64 ((rd_T26 l0 x9_1).f0), .int .i64 ((rd_T26 l0 x9_1).f1), .int .i64 ((rd_T26 l0 x9_1).f2), .int .i64 ((rd_T26 l0 x9_1).f3), .slice A136_4 ((rd_T26 l0 x9_1).f4).length c136_4] 26 (0, 0)) (by (with_reducible repeat (first | refine blk_drewN ?_ _ | refine blk_drew ?_ | refine blk_alloc ?_ _)); refine blk_put (cs := #[.int .i64 ((rd_T26 l0 x9_1).f0), .int .i64 ((rd_T26 l0 x9_1).f1), .int .i64 ((rd_T26 l0 x9_1).f2), .int .i64 ((rd_T26 l0 x9_1).f3), .slice none 0 0]) ?_ 4 _ rfl; (with_reducible repeat (first | refine blk_drewN ?_ _ | refine blk_drew ?_ | refine blk_alloc ?_ _)); refine blk_put (cs := #[.int .i64 ((rd_T26 l0 x9_1).f0), .int .i64 ((rd_T26 l0 x9_1).f1), .int .i64 ((rd_T26 l0 x9_1).f2), .int .i64 0, .slice none 0 0]) ?_ 3 _ rfl; (with_reducible repeat (first | refine blk_drewN ?_ _ | refine blk_drew ?_ | refine blk_alloc ?_ _)); refine blk_put (cs := #[.int .i64 ((rd_T26 l0 x9_1).f0), .int .i64 ((rd_T26 l0 x9_1).f1), .int .i64 0, .int .i64 0, .slice none 0 0]) ?_ 2 _ rfl; (with_reducible repeat (first | refine blk_drewN ?_ _ | refine blk_drew ?_ | refine blk_alloc ?_ _)); refine blk_put (cs := #[.int .i64 ((rd_T26 l0 x9_1).f0), .int .i64 0, .int .i64 0, .int .i64 0, .slice none 0 0]) ?_ 1 _ rfl; (with_reducible repeat (first | refine blk_drewN ?_ _ | refine blk_drew ?_ | refine blk_alloc ?_ _)); refine blk_put (cs := #[.int .i64 0, .int .i64 0, .int .i64 0, .int .i64 0, .slice none 0 0]) ?_ 0 _ rfl; (with_reducible repeat (first | refine blk_drewN ?_ _ | refine blk_drew ?_ | refine blk_alloc ?_ _)); exact BK137.out) hb); have n2_ := Aside0.mk (below_step (by repeat (first | (with_reducible first | exact HB.out | apply below_alloc | apply pw_below_drewN | apply below_drew1 | refine below_set ?_ GE137.out) | exact HB.out)) hb); clear HO_4; clear BK137; clear HB; have HO_4 := n0_; have BK137 := n1_; have HB := n2_; clear n0_ n1_ n2_; (try clear hb); (try clear hb2); (try clear hk); (try clear hi)))
         have n0_ := Aside0.mk (Kd.R_drew HO_4.out)
         have n1_ := Aside0.mk (blk_drew BK137.out)
         have n2_ := Aside0.mk (below_drew1 HB.out)
         clear HO_4
         clear BK137
         clear HB
         have HO_4 := n0_
         have BK137 := n1_
         have HB := n2_
         clear n0_ n1_ n2_
         refine start_ (n := 8) (S := fun w' => w'.cell? ⟨gb137, 0, none⟩ = some (.int .i64 ((rd_T26 l0 x9_1).f0)) ∧ w'.cell? ⟨gb137, 1, none⟩ = some (.int .i64 ((rd_T26 l0 x9_1).f1)) ∧ w'.cell? ⟨gb137, 2, none⟩ = some (.int .i64 ((rd_T26 l0 x9_1).f2)) ∧ w'.cell? ⟨gb137, 3, none⟩ = some (.int .i64 ((rd_T26 l0 x9_1).f3)) ∧ w'.cell? ⟨gb137, 4, none⟩ = some (.slice A136_4 ((rd_T26 l0 x9_1).f4).length c136_4)) (ds := []) (onA 8 0) (by kernel_rfl) rfl rfl ⟨(blk_cell BK137.out 0).trans rfl, (blk_cell BK137.out 1).trans rfl, (blk_cell BK137.out 2).trans rfl, (blk_cell BK137.out 3).trans rfl, (blk_cell BK137.out 4).trans rfl⟩ (fun hHeld => ?_); refine with_tabW code_Encode.tab7 code_Encode.bits7 (fun HT_ HW_ => ?_)
         generalize w12.drew = w13 at HO_4 BK137 HB hHeld ⊢
         refine pure_ (i := 0) (N := some 16) (v := ?_) (a' := ?_) (onA 8 1) rfl rfl (any_of HT_.out (by kernel_rfl)) (fun _ _ _ h => h) (Or.inl ⟨by rfl, ?_⟩) ?_ ?_
         rotate_left
         ·
          intro w'
          go_simp
          with_reducible rfl
         rotate_left
         ·
          simp only [Act.put, List.setIfInBounds_toArray, List.set_cons_zero, List.set_cons_succ, i64_w, i32_w]
          rfl
         refine pure_ (i := 4) (N := some 20) (v := ?_) (a' := ?_) #[tt_, ff_, ff_, ff_, tt_, ff_, ff_, ff_] rfl rfl (any_of HT_.out (by kernel_rfl)) (fun _ _ _ h => h) (Or.inl ⟨by rfl, ?_⟩) ?_ ?_
         rotate_left
         ·
          intro w'
          go_simp
          with_reducible rfl
         rotate_left
         ·
          simp only [Act.put, List.setIfInBounds_toArray, List.set_cons_zero, List.set_cons_succ, i64_w, i32_w]
          rfl
         refine take_ (i := 1) (N := some 17) (v := ?_) (a' := ?_) #[tt_, tt_, ff_, ff_, tt_, ff_, ff_, ff_] rfl rfl (take_ofW HT_.out HW_.out (by kernel_rfl)) (fun _ _ _ h => h) (Or.inl ⟨by rfl, ?_⟩) hHeld ?_ ?_
         rotate_left
         ·
          rintro w' ⟨s0, s1, s2, s3, s4⟩
          go_simp
          with_reducible rfl
         rotate_left
         ·
          simp only [Act.put, List.setIfInBounds_toArray, List.set_cons_zero, List.set_cons_succ, i64_w, i32_w]
          rfl
         refine take_ (i := 5) (N := some 21) (v := ?_) (a' := ?_) #[tt_, tt_, ff_, ff_, tt_, tt_, ff_, ff_] rfl rfl (take_ofW HT_.out HW_.out (by kernel_rfl)) (fun _ _ _ h => h) (Or.inl ⟨by rfl, ?_⟩) hHeld ?_ ?_
         rotate_left
         ·
          rintro w' ⟨s0, s1, s2, s3, s4⟩
          go_simp
          with_reducible rfl
         rotate_left
         ·
          simp only [Act.put, List.setIfInBounds_toArray, List.set_cons_zero, List.set_cons_succ, i64_w, i32_w]
          rfl
         refine one_ (i := 2) (N := some 18) #[tt_, tt_, tt_, ff_, tt_, tt_, ff_, ff_] rfl rfl (one_of HT_.out (by kernel_rfl)) (by decide) (fun K hK => ?_)
         refine goes_ Try.func40 (by kernel_rfl) rfl #[.agg #[.int .i64 ((rd_T26 l0 x9_1).f0), .int .i64 ((rd_T26 l0 x9_1).f1), .int .i64 ((rd_T26 l0 x9_1).f2), .int .i64 ((rd_T26 l0 x9_1).f3), .slice A136_4 ((rd_T26 l0 x9_1).f4).length c136_4]] (by rfl) rfl rfl (by (try simp only [List.map_toArray, List.map_cons, List.map_nil]); first | done | rfl | (simp only [List.length_drop, List.length_take]; rfl)) ?_
         with_reducible refine (code_bytes.calls ((rd_T26 l0 x9_1).f0) ((rd_T26 l0 x9_1).f1) ((rd_T26 l0 x9_1).f2) ((rd_T26 l0 x9_1).f3) _ _ ((rd_T26 l0 x9_1).f4) t139 _ ?side1 ?side2 A7.out).mono ?_
         (case side1 => repeat (first | exact (Kd.C_below HR136_4.out HB.out) | (with_reducible refine Kd.C_alloc ?_ _) | (with_reducible refine Kd.C_drewN ?_ _) | (with_reducible refine Kd.C_drew ?_)))
         (case side2 => exact HC136_4.out)
         rintro e w14 ⟨v140, rfl, ho0, hb⟩
         refine ⟨_, rfl, ?_⟩
         have n0_ := Aside0.mk (Kd.R_elder' (by (with_reducible repeat (first | apply Kd.R_alloc | apply Kd.R_drewN | apply Kd.R_drew)); exact HO_4.out) (Kd.R_base ho0) hb)
         have n1_ := Aside0.mk (Kd.R_lower (Kd.R_new' ho0 (Kd.R_lt (by (with_reducible repeat (first | apply Kd.R_alloc | apply Kd.R_drewN | apply Kd.R_drew)); exact HO_4.out))) (below_size (by repeat (first | (with_reducible first | exact HB.out | apply below_alloc | apply pw_below_drewN | apply below_drew1 | refine below_set ?_ GE137.out) | exact HB.out))))
         have n2_ := Aside0.mk (blk_below (g := gb137) (o := .cells #[.int .i64 ((rd_T26 l0 x9_1).f0), .int .i64 ((rd_T26 l0 x9_1).f1), .int .i64 ((rd_T26 l0 x9_1).f2), .int .i64 ((rd_T26 l0 x9_1).f3), .slice A136_4 ((rd_T26 l0 x9_1).f4).length c136_4] 26 (0, 0)) (by (with_reducible repeat (first | refine blk_drewN ?_ _ | refine blk_drew ?_ | refine blk_alloc ?_ _)); exact BK137.out) hb)
         have n3_ := Aside0.mk (below_step (by repeat (first | (with_reducible first | exact HB.out | apply below_alloc | apply pw_below_drewN | apply below_drew1 | refine below_set ?_ GE137.out) | exact HB.out)) hb)
         clear HO_4
         clear BK137
         clear HB
         have HO_4 := n0_
         have HO141 := n1_
         have BK137 := n2_
         have HB := n3_
         clear n0_ n1_ n2_ n3_
         (try clear hb)
         (try clear hb2)
         (try clear hk)
         (try clear hi)
         (try clear ho0)
         obtain ⟨Ao16, co16, eo16⟩ := Kd.R_slice HO141.out
         (first | subst eo16 | (injection eo16 with f1_ f2_ f3_; have f4_ := f1_.symm; have f5_ := f3_.symm; clear f1_ f2_ f3_; subst f4_; subst f5_))
         refine hK.out _ _ ⟨(blk_cell BK137.out 0).trans rfl, (blk_cell BK137.out 1).trans rfl, (blk_cell BK137.out 2).trans rfl, (blk_cell BK137.out 3).trans rfl, (blk_cell BK137.out 4).trans rfl⟩ (fun hHeld => ?_)
         clear hK K
         refine norm_ (a' := ?_) ?_ ?_
         rotate_left
         ·
          show Act.put _ (some 18) _ = _
          simp only [Act.put, List.setIfInBounds_toArray, List.set_cons_zero, List.set_cons_succ, i64_w, i32_w]
          rfl
         refine one_ (i := 3) (N := some 19) (onA 8 6) rfl rfl (one_of HT_.out (by kernel_rfl)) (by decide) (fun K hK => ?_)
         refine Kd.R_append_rows_step (Kd.int .u8) (w0 := w) w.heap.size (by rfl) (.tmp 16) (.tmp 18) 22 5 (.int .u8 0) 1 rfl Try.underlying22 info5 rfl (by decide) (by omega) u4 x4_1 t139 _ _ _ (fun k_ => some k_ ≠ (.slice Ao16 t139.length co16 : Value).ownBlock) (fun _ => False) rfl rfl ?aO ?aR (fun _ _ h => h) (fun _ h => h.elim) ?aF ?aB ?aS ?aL ?_
         (case aR => repeat (first | exact (Kd.R_reads' HO141.out).2.2 | (with_reducible refine Kd.C_alloc ?_ _) | (with_reducible refine Kd.C_drewN ?_ _) | (with_reducible refine Kd.C_drew ?_)))
         (case aB => exact (by repeat (first | (with_reducible first | exact HB.out | apply below_alloc | apply pw_below_drewN | apply below_drew1 | refine below_set ?_ GE137.out) | exact HB.out)))
         (case aF => exact (fun k_ hk => Kd.fresh' (Kd.R_lt (by (with_reducible repeat (first | apply Kd.R_alloc | apply Kd.R_drewN | apply Kd.R_drew)); exact HO141.out)) k_ hk))
         (case aO => exact (by (with_reducible repeat (first | apply Kd.R_alloc | apply Kd.R_drewN | apply Kd.R_drew)); exact Kd.R_mono HO_4.out (fun _ hk => hk.2)))
         (case aS => exact (below_size (by repeat (first | (with_reducible first | exact HB.out | apply below_alloc | apply pw_below_drewN | apply below_drew1 | refine below_set ?_ GE137.out) | exact HB.out))))
         (case aL => have := LMc8.out; omega)
         intro v143 w15 ho hb hg hat
         rw [← Ny142.out] at ho
         have n0_ := Aside0.mk (blk_grown (g := gb137) (o := .cells #[.int .i64 ((rd_T26 l0 x9_1).f0), .int .i64 ((rd_T26 l0 x9_1).f1), .int .i64 ((rd_T26 l0 x9_1).f2), .int .i64 ((rd_T26 l0 x9_1).f3), .slice A136_4 ((rd_T26 l0 x9_1).f4).length c136_4] 26 (0, 0)) (by (with_reducible repeat (first | refine blk_drewN ?_ _ | refine blk_drew ?_ | refine blk_alloc ?_ _)); exact BK137.out) hg (Kd.R_ne HO_4.out BK137.out (by decide)))
         have n1_ := Aside0.mk (Kd.R_after (ok := (fun _ => True)) (by (with_reducible repeat (first | apply Kd.R_alloc | apply Kd.R_drewN | apply Kd.R_drew)); exact HO141.out) hg hat)
         have n2_ := Aside0.mk (hb)
         have n3_ := Aside0.mk (ho)
         clear BK137
         clear HO141
         clear HB
         clear HO_4
         have BK137 := n0_
         have HO141 := n1_
         have HB := n2_
         have HO144 := n3_
         clear n0_ n1_ n2_ n3_
         clear ho hb hg hat
         refine hK.out _ _ ⟨(blk_cell BK137.out 0).trans rfl, (blk_cell BK137.out 1).trans rfl, (blk_cell BK137.out 2).trans rfl, (blk_cell BK137.out 3).trans rfl, (blk_cell BK137.out 4).trans rfl⟩ (fun hHeld => ?_)
         clear hK K
         refine norm_ (a' := ?_) ?_ ?_
         rotate_left
         ·
          show Act.put _ (some 19) _ = _
          simp only [Act.put, List.setIfInBounds_toArray, List.set_cons_zero, List.set_cons_succ, i64_w, i32_w]
          rfl
         refine one_ (i := 6) (N := some 22) (onA 8 7) rfl rfl (one_of HT_.out (by kernel_rfl)) (by decide) (fun K hK => ?_)
         refine Kd.R_append_rows_step (Kd.int .u8) (w0 := w) w.heap.size (by rfl) (.tmp 19) (.tmp 21) 22 5 (.int .u8 0) 1 rfl Try.underlying22 info5 rfl (by decide) (by omega) v143 y142 ((rd_T26 l0 x9_1).f4) _ _ _ (fun k_ => some k_ ≠ (.slice Ao16 t139.length co16 : Value).ownBlock) (fun _ => False) rfl rfl ?aO ?aR (fun _ _ h => h) (fun _ h => h.elim) ?aF ?aB ?aS ?aL ?_
         (case aR => repeat (first | exact (Kd.C_below HR136_4.out HB.out) | (with_reducible refine Kd.C_alloc ?_ _) | (with_reducible refine Kd.C_drewN ?_ _) | (with_reducible refine Kd.C_drew ?_)))
         (case aB => exact (by repeat (first | (with_reducible first | exact HB.out | apply below_alloc | apply pw_below_drewN | apply below_drew1 | refine below_set ?_ GE137.out) | exact HB.out)))
         (case aF => exact (fun k_ hk => Kd.fresh' (Kd.R_lt (by (with_reducible repeat (first | apply Kd.R_alloc | apply Kd.R_drewN | apply Kd.R_drew)); exact HO141.out)) k_ hk))
         (case aO => exact (by (with_reducible repeat (first | apply Kd.R_alloc | apply Kd.R_drewN | apply Kd.R_drew)); exact HO144.out))
         (case aS => exact (below_size (by repeat (first | (with_reducible first | exact HB.out | apply below_alloc | apply pw_below_drewN | apply below_drew1 | refine below_set ?_ GE137.out) | exact HB.out))))
         (case aL => have := LMc9.out; omega)
         intro v146 w17 ho hb hg hat
         rw [← Ny145.out] at ho
         have n0_ := Aside0.mk (blk_grown (g := gb137) (o := .cells #[.int .i64 ((rd_T26 l0 x9_1).f0), .int .i64 ((rd_T26 l0 x9_1).f1), .int .i64 ((rd_T26 l0 x9_1).f2), .int .i64 ((rd_T26 l0 x9_1).f3), .slice A136_4 ((rd_T26 l0 x9_1).f4).length c136_4] 26 (0, 0)) (by (with_reducible repeat (first | refine blk_drewN ?_ _ | refine blk_drew ?_ | refine blk_alloc ?_ _)); exact BK137.out) hg (Kd.R_ne HO144.out BK137.out (by decide)))
         have n1_ := Aside0.mk (Kd.R_after (ok := (fun _ => True)) (by (with_reducible repeat (first | apply Kd.R_alloc | apply Kd.R_drewN | apply Kd.R_drew)); exact HO141.out) hg hat)
         have n2_ := Aside0.mk (hb)
         have n3_ := Aside0.mk (ho)
         clear BK137
         clear HO141
         clear HB
         clear HO144
         have BK137 := n0_
         have HO141 := n1_
         have HB := n2_
         have HO147 := n3_
         clear n0_ n1_ n2_ n3_
         clear ho hb hg hat
         refine hK.out _ _ ⟨(blk_cell BK137.out 0).trans rfl, (blk_cell BK137.out 1).trans rfl, (blk_cell BK137.out 2).trans rfl, (blk_cell BK137.out 3).trans rfl, (blk_cell BK137.out 4).trans rfl⟩ (fun hHeld => ?_)
         clear hK K
         refine norm_ (a' := ?_) ?_ ?_
         rotate_left
         ·
          show Act.put _ (some 22) _ = _
          simp only [Act.put, List.setIfInBounds_toArray, List.set_cons_zero, List.set_cons_succ, i64_w, i32_w]
          rfl
         refine pure_ (i := 7) (N := some 4) (v := ?_) (a' := ?_) (onA 8 8) rfl rfl (any_of HT_.out (by kernel_rfl)) (fun _ _ _ h => h) (Or.inl ⟨by rfl, ?_⟩) ?_ ?_
         rotate_left
         ·
          intro w'
          go_simp
          with_reducible rfl
         rotate_left
         ·
          simp only [Act.put, List.setIfInBounds_toArray, List.set_cons_zero, List.set_cons_succ, i64_w, i32_w]
          rfl
         refine done_ (done_of HT_.out (by kernel_rfl)) ?_
         try go_wp2
         go_roundg k1
         case measure => have := HK1.out; omega
         case rel => exact ⟨(y145), (wrap64 (x9_1 + 1)), (by first | rfl | (simp; done) | (simp [*]; done)), H', ⟨by have := HK1.out; omega⟩, ⟨by (with_reducible repeat (first | apply Kd.R_alloc | apply Kd.R_drewN | apply Kd.R_drew)); exact Kd.R_mono HO147.out (fun _ hk => trivial)⟩, ⟨by repeat (first | (with_reducible first | exact HB.out | apply below_alloc | apply pw_below_drewN | apply below_drew1 | refine below_set ?_ GE137.out) | exact HB.out)⟩⟩
        ·
         rw [if_neg c9] at H
         exact absurd H (by simp)
       ·
        rw [if_neg c8] at H
        exact absurd H (by simp)
      ·
       replace c6 := Bool.eq_false_iff.mpr c6
       subst c6
       have H1 : (some (([] : List Int), false)) = some (r1, r2) := by rw [if_neg (show ¬ (false = true) by decide)] at H; exact H
       clear H
       have H := H1
       clear H1
       simp only [Option.some.injEq, Prod.mk.injEq] at H
       obtain ⟨rfl, rfl⟩ := H
       have p136 : 0 ≤ (x9_1 : Int) := of_decide_eq_true (by first | (with_reducible assumption) | assumption)
       have q136 : x9_1 < (l0.length : Int) := of_decide_eq_true (by first | (with_reducible assumption) | assumption)
       obtain ⟨ad136, A136_4, c136_4, e136, hx136_0, hx136_1, hx136_2, hx136_3, hx136_4, hl136_4, hi136_4⟩ := at_T26 HR0.out x9_1 p136 q136
       cases e136
       replace hx136_0 := (HB.out.cell (World.block_lt_of_cell? w _ hx136_0)).trans hx136_0
       replace hx136_1 := (HB.out.cell (World.block_lt_of_cell? w _ hx136_1)).trans hx136_1
       replace hx136_2 := (HB.out.cell (World.block_lt_of_cell? w _ hx136_2)).trans hx136_2
       replace hx136_3 := (HB.out.cell (World.block_lt_of_cell? w _ hx136_3)).trans hx136_3
       replace hx136_4 := (HB.out.cell (World.block_lt_of_cell? w _ hx136_4)).trans hx136_4
       have HR136_4 := Aside0.mk hi136_4
       have HC136_4 := Aside0.mk hl136_4
       clear hi136_4 hl136_4
       replace p136 := eq_true p136
       replace q136 := eq_true q136
       go_wp2_with (first | ((with_reducible refine gate_dst (N := 6) rfl ?_); refine box_event ?hg (N := 6) ?hd (cs := #[.int .i64 0, .int .i64 0, .int .i64 0, .int .i64 0, .slice none 0 0]) (t := 26) ?hr ?_; (case hd => rfl); (case hg => rfl); (case hr => first | (go_simp; done) | (go_simp; rfl)); intro gb137 hg w18 hbox hb; have n0_ := Aside0.mk (Kd.R_below (by (with_reducible repeat (first | apply Kd.R_alloc | apply Kd.R_drewN | apply Kd.R_drew)); exact HO_4.out) hb); have n1_ := Aside0.mk (below_step (by repeat (first | (with_reducible first | exact HB.out | apply below_alloc | apply pw_below_drewN | apply below_drew1) | exact HB.out)) hb); have n2_ := Aside0.mk (hbox); have n3_ := Aside0.mk ((by rw [hg]; exact (below_size (by repeat (first | (with_reducible first | exact HB.out | apply below_alloc | apply pw_below_drewN | apply below_drew1) | exact HB.out))) : w.heap.size ≤ gb137)); have n4_ := Aside0.mk ((by rw [hg]; exact (below_size (by repeat (first | (with_reducible first | exact HB.out | apply below_alloc | apply pw_below_drewN | apply below_drew1) | exact HB.out))) : w.heap.size ≤ gb137)); clear HO_4; clear HB; have HO_4 := n0_; have HB := n1_; have BK137 := n2_; have GW137 := n3_; have GE137 := n4_; clear n0_ n1_ n2_ n3_ n4_; clear hb hbox hg; have hcz19_0 : w18.cell? ⟨gb137, 0, none⟩ = some (.int .i64 0) := (blk_cell BK137.out 0).trans rfl; have hcz19_1 : w18.cell? ⟨gb137, 1, none⟩ = some (.int .i64 0) := (blk_cell BK137.out 1).trans rfl; have hcz19_2 : w18.cell? ⟨gb137, 2, none⟩ = some (.int .i64 0) := (blk_cell BK137.out 2).trans rfl; have hcz19_3 : w18.cell? ⟨gb137, 3, none⟩ = some (.int .i64 0) := (blk_cell BK137.out 3).trans rfl; have hcz19_4 : w18.cell? ⟨gb137, 4, none⟩ = some (.slice none 0 0) := (blk_cell BK137.out 4).trans rfl; have hfz19_0 := blk_frozen BK137.out 0; have hfz19_1 := blk_frozen BK137.out 1; have hfz19_2 := blk_frozen BK137.out 2; have hfz19_3 := blk_frozen BK137.out 3; have hfz19_4 := blk_frozen BK137.out 4) | ((with_reducible refine gate_callee (f := 14) rfl ?_); refine goesL_ (some 14) rfl rfl Try.func14 (by kernel_rfl) rfl #[.agg #[.int .i64 ((rd_T26 l0 x9_1).f0), .int .i64 ((rd_T26 l0 x9_1).f1), .int .i64 ((rd_T26 l0 x9_1).f2), .int .i64 ((rd_T26 l0 x9_1).f3), .slice A136_4 ((rd_T26 l0 x9_1).f4).length c136_4]] rfl (by (try simp only [List.map_toArray, List.map_cons, List.map_nil]); first | done | rfl | (simp only [List.length_drop, List.length_take]; rfl)) ?_; (with_reducible refine (code_May.calls k1 ((rd_T26 l0 x9_1).f0) ((rd_T26 l0 x9_1).f1) ((rd_T26 l0 x9_1).f2) ((rd_T26 l0 x9_1).f3) _ _ ((rd_T26 l0 x9_1).f4) false _ ?side1 ?side2 A5.out).mono ?_); (case side1 => exact Kd.C_below HR136_4.out (by repeat (first | (with_reducible first | exact HB.out | apply below_alloc | apply pw_below_drewN | apply below_drew1 | refine below_set ?_ GE137.out) | exact HB.out))); (case side2 => exact HC136_4.out); rintro e w20 ⟨rfl, hb⟩; refine ⟨_, rfl, ?_⟩; have n0_ := Aside0.mk (Kd.R_below (by (with_reducible repeat (first | apply Kd.R_alloc | apply Kd.R_drewN | apply Kd.R_drew)); exact (Kd.R_mono (Kd.R_far (p := ⟨gb137, 4, none⟩) (Kd.R_far (p := ⟨gb137, 3, none⟩) (Kd.R_far (p := ⟨gb137, 2, none⟩) (Kd.R_far (p := ⟨gb137, 1, none⟩) (Kd.R_far (p := ⟨gb137, 0, none⟩) (Kd.R_types HO_4.out BK137.out (by decide)) (fun _ hk => hk.2) (.int .i64 ((rd_T26 l0 x9_1).f0))) (fun _ hk => hk.2) (.int .i64 ((rd_T26 l0 x9_1).f1))) (fun _ hk => hk.2) (.int .i64 ((rd_T26 l0 x9_1).f2))) (fun _ hk => hk.2) (.int .i64 ((rd_T26 l0 x9_1).f3))) (fun _ hk => hk.2) (.slice A136_4 ((rd_T26 l0 x9_1).f4).length c136_4)) (fun _ h_ => h_.1))) hb); have n1_ := Aside0.mk (blk_below (g := gb137) (o := .cells #[.int .i64 ((rd_T26 l0 x9_1).f0), .int .i64 ((rd_T26 l0 x9_1).f1), .int .i64 ((rd_T26 l0 x9_1).f2), .int .i64 ((rd_T26 l0 x9_1).f3), .slice A136_4 ((rd_T26 l0 x9_1).f4).length c136_4] 26 (0, 0)) (by (with_reducible repeat (first | refine blk_drewN ?_ _ | refine blk_drew ?_ | refine blk_alloc ?_ _)); refine blk_put (cs := #[.int .i64 ((rd_T26 l0 x9_1).f0), .int .i64 ((rd_T26 l0 x9_1).f1), .int .i64 ((rd_T26 l0 x9_1).f2), .int .i64 ((rd_T26 l0 x9_1).f3), .slice none 0 0]) ?_ 4 _ rfl; (with_reducible repeat (first | refine blk_drewN ?_ _ | refine blk_drew ?_ | refine blk_alloc ?_ _)); refine blk_put (cs := #[.int .i64 ((rd_T26 l0 x9_1).f0), .int .i64 ((rd_T26 l0 x9_1).f1), .int .i64 ((rd_T26 l0 x9_1).f2), .int .i64 0, .slice none 0 0]) ?_ 3 _ rfl; (with_reducible repeat (first | refine blk_drewN ?_ _ | refine blk_drew ?_ | refine blk_alloc ?_ _)); refine blk_put (cs := #[.int .i64 ((rd_T26 l0 x9_1).f0), .int .i64 ((rd_T26 l0 x9_1).f1), .int .i64 0, .int .i64 0, .slice none 0 0]) ?_ 2 _ rfl; (with_reducible repeat (first | refine blk_drewN ?_ _ | refine blk_drew ?_ | refine blk_alloc ?_ _)); refine blk_put (cs := #[.int .i64 ((rd_T26 l0 x9_1).f0), .int .i64 0, .int .i64 0, .int .i64 0, .slice none 0 0]) ?_ 1 _ rfl; (with_reducible repeat (first | refine blk_drewN ?_ _ | refine blk_drew ?_ | refine blk_alloc ?_ _)); refine blk_put (cs := #[.int .i64 0, .int .i64 0, .int .i64 0, .int .i64 0, .slice none 0 0]) ?_ 0 _ rfl; (with_reducible repeat (first | refine blk_drewN ?_ _ | refine blk_drew ?_ | refine blk_alloc ?_ _)); exact BK137.out) hb); have n2_ := Aside0.mk (below_step (by repeat (first | (with_reducible first | exact HB.out | apply below_alloc | apply pw_below_drewN | apply below_drew1 | refine below_set ?_ GE137.out) | exact HB.out)) hb); clear HO_4; clear BK137; clear HB; have HO_4 := n0_; have BK137 := n1_; have HB := n2_; clear n0_ n1_ n2_; (try clear hb); (try clear hb2); (try clear hk); (try clear hi)))
       go_ret2
       exact ⟨_, by first | rfl | (simp [errW_none, errW_some] <;> rfl) | (simp [*, errW_none, errW_some] <;> rfl), by first | exact Kd.R_nil _ _ _ _ _ | exact Kd.N_nil _ _ _ _ _ | exact Kd.V_nil _ _ _ _ _ | exact Kd.Q_nil _ _ _ _ _ | exact Kd.S_nil _ _ _ _ _, by repeat (first | (with_reducible first | exact HB.out | apply below_alloc | apply pw_below_drewN | apply below_drew1 | refine below_set ?_ GE137.out) | exact HB.out)⟩
     ·
      rw [if_neg c4] at H
      exact absurd H (by simp)
    ·
     rw [if_neg c3] at H
     exact absurd H (by simp)
   ·
    rw [if_neg c2] at H
    have c2b0 : decide (x9_1 < (l0.length : Int)) = false := decide_eq_false c2
    clear c2
    simp only [Option.some.injEq, Prod.mk.injEq] at H
    obtain ⟨rfl, rfl⟩ := H
    go_wp2
    go_ret2
    exact ⟨_, by first | rfl | (simp [errW_none, errW_some] <;> rfl) | (simp [*, errW_none, errW_some] <;> rfl), by (with_reducible repeat (first | apply Kd.R_alloc | apply Kd.R_drewN | apply Kd.R_drew)); exact HO_4.out, by repeat (first | (with_reducible first | exact HB.out | apply below_alloc | apply pw_below_drewN | apply below_drew1) | exact HB.out)⟩

/-! ### code_Decode: function 19 -/
def code_Decode.l0 : Nat → List Int → List (S26) → Option ((List (S26)))
 | 0, _, _ => none
 | k + 1, x0, x3 => if (x0.length : Int) ≥ 4 then ((code_decode.f k x0).bind fun bt148 => (if 3 < (x0.length : Int) then (if 4 ≤ (x0.length : Int) then ((some (x0.drop 4 : List Int)).bind fun y158 => (if bt148.2.2.2.2.2 = true then (if bt148.1 = 4 then (if 0 ≤ (mn (wrap64 (rd x0 3)) (y158.length : Int)) then (if (mn (wrap64 (rd x0 3)) (y158.length : Int)) ≤ (y158.length : Int) then ((some (y158.take ((mn (wrap64 (rd x0 3)) (y158.length : Int)) : Int).toNat : List Int)).bind fun y163 => (if ([] : List Int).length + y163.length < 140737488355328 then (if x3.length < 2513169434916 then (code_Decode.l0 k (y158.drop ((mn (wrap64 (rd x0 3)) (y158.length : Int)) : Int).toNat) (x3 ++ [(⟨bt148.1, bt148.2.1, bt148.2.2.1, bt148.2.2.2.1, (([] : List Int) ++ y163)⟩ : S26)])) else (none)) else (none))) else (none)) else (none)) else (if x3.length < 2513169434916 then (code_Decode.l0 k y158 (x3 ++ [(⟨bt148.1, bt148.2.1, bt148.2.2.1, bt148.2.2.2.1, bt148.2.2.2.2.1⟩ : S26)])) else (none))) else (code_Decode.l0 k y158 x3))) else (none)) else (none))) else (some x3)
def code_Decode.f (k : Nat) (l0 : List Int) : Option ((List (S26))) := code_Decode.l0 k l0 ([] : List (S26))
theorem code_Decode.mono_l : ∀ k, (∀ y0 y1, LeO (code_Decode.l0 k y0 y1) (code_Decode.l0 (k + 1) y0 y1))
 | 0 => fun _ _ r h => by simp [code_Decode.l0] at h
 | k + 1 => by
  have ih0 := code_Decode.mono_l k
  ·
   intro y0 y1
   unfold code_Decode.l0
   repeat' first
   | (with_reducible exact ih0 _ _)
   | (with_reducible exact code_decode.mono _ _)
   | (with_reducible exact LeO.refl _)
   | (with_reducible exact LeO.none _)
   | (with_reducible refine LeO.ite ?_ ?_)
   | (with_reducible refine LeO.bind ?_ (fun _ => ?_))
   | exact ih0 _ _
   | exact code_decode.mono _ _
   | exact LeO.none _
   | refine LeO.ite ?_ ?_
   | refine LeO.bind ?_ (fun _ => ?_)
theorem code_Decode.mono : ∀ a0 k, LeO (code_Decode.f k a0) (code_Decode.f (k + 1) a0) := by
 intro a0 k
 have ih0 := code_Decode.mono_l k
 unfold code_Decode.f
 repeat' first
   | (with_reducible exact ih0 _ _)
   | (with_reducible exact code_decode.mono _ _)
   | (with_reducible exact LeO.refl _)
   | (with_reducible exact LeO.none _)
   | (with_reducible refine LeO.ite ?_ ?_)
   | (with_reducible refine LeO.bind ?_ (fun _ => ?_))
   | exact ih0 _ _
   | exact code_decode.mono _ _
   | exact LeO.none _
   | refine LeO.ite ?_ ?_
   | refine LeO.bind ?_ (fun _ => ?_)
def code_Decode.T9 : Bool × List (List Nat × List Nat) := (true, [([], []), ([], []), ([0, 1], [0, 1]), ([2], [2]), ([], []), ([], []), ([4, 5], [4, 5]), ([0, 1, 2, 3], []), ([7, 3, 3, 0, 1, 2, 3], [3, 7]), ([6, 8, 0, 1, 2, 3, 4, 5, 6, 7, 8], [0, 4, 6])])
def code_Decode.B9 : List Nat := [0, 0, 3, 7, 0, 0, 48, 15, 143, 511]
theorem code_Decode.tab9 : rtab .any (opsOf Try.f19 9) = code_Decode.T9 := by kernel_rfl
theorem code_Decode.bits9 : waitsOk code_Decode.T9.2 code_Decode.B9 = true := by kernel_rfl
set_option maxHeartbeats 8000000 in
set_option maxRecDepth 100000 in
theorem code_Decode.calls (k : Nat) (P0_ : Nat → Prop) (A0 : Option Addr) (c0 : Nat) (l0 : List Int) (r : List (S26)) (w : World) (hs0 : Kd.V (Kd.int .u8) 5 w w.heap.size (fun k_ => P0_ k_) (.slice A0 l0.length c0) l0) (h : code_Decode.f k l0 = some r) :
  Calls Try.prog 19 #[.slice A0 l0.length c0] w fun e w' => ∃ v0_ : Value, e = .returned (v0_) ∧ Kd.S k26 26 w' w.heap.size (fun k_ => (w.heap.size ≤ k_)) v0_ r ∧ Below w.heap.size w w' := by
 have hu26 := Try.underlying26
 have HO0 := Aside0.mk (show Kd.V (Kd.int .u8) 5 w w.heap.size (fun k_ => (P0_ k_ ∨ w.heap.size ≤ k_)) (.slice A0 l0.length c0) l0 from Kd.V_mono hs0 (fun k_ hk => .inl hk))
 have HB := Aside0.mk (Below.refl w.heap.size w)
 have H : (code_Decode.l0 k l0 ([] : List (S26))) = some r := h
 clear h
 have H' := Aside0.mk H
 clear H
 go_enter Try.func19, Try.ntmps19
 go_wp2
 go_loopg [0, 3] k (fun kq v0 v3 w' => ∃ (x0_1 : List Int) (x3_1 : List (S26)), Aside0 (code_Decode.l0 kq x0_1 x3_1 = some r) ∧ Aside0 (kq ≤ k) ∧ Aside0 (Kd.V (Kd.int .u8) 5 w' w.heap.size (fun k_ => (P0_ k_ ∨ w.heap.size ≤ k_) ∧ some k_ ≠ (v3 : Value).ownBlock) v0 x0_1) ∧ Aside0 (Kd.S k26 26 w' w.heap.size (fun k_ => (w.heap.size ≤ k_)) v3 x3_1) ∧ Aside0 (Below w.heap.size w w'))
 case atStart => exact ⟨(l0), (([] : List (S26))), H', ⟨Nat.le_refl _⟩, ⟨by (with_reducible repeat (first | apply Kd.V_alloc | apply Kd.V_drewN | apply Kd.V_drew)); exact Kd.V_mono HO0.out (fun _ hk => ⟨hk, (by simp [Value.ownBlock])⟩)⟩, ⟨by first | exact Kd.S_nil _ _ _ _ _ | exact Kd.N_nil _ _ _ _ _ | exact Kd.V_nil _ _ _ _ _ | exact Kd.Q_nil _ _ _ _ _ | exact Kd.R_nil _ _ _ _ _⟩, ⟨by repeat (first | (with_reducible first | exact HB.out | apply below_alloc | apply pw_below_drewN | apply below_drew1) | exact HB.out)⟩⟩
 case round =>
  clear H'
  try clear c1
  obtain ⟨x0_1, x3_1, HA, HK1, HO_0, HO_3, HB⟩ := hrel
  cases gk with
  | zero => exact absurd HA.out (by simp [code_Decode.l0])
  | succ k1 =>
   have H := HA.out
   clear HA
   simp only [code_Decode.l0] at H
   by_cases c2 : (x0_1.length : Int) ≥ 4
   ·
    rw [if_pos c2] at H
    have c2b0 : decide (4 ≤ (x0_1.length : Int)) = true := decide_eq_true c2
    have c2b1 : decide (4 ≤ x0_1.length) = true := decide_eq_true (by omega)
    clear c2
    replace H := Option.bind_eq_some_iff.mp H
    obtain ⟨⟨t148, t149, t150, t151, t152, t155⟩, A30, H⟩ := H
    replace H : (if 3 < (x0_1.length : Int) then (if 4 ≤ (x0_1.length : Int) then ((some (x0_1.drop 4 : List Int)).bind fun y158 => (if t155 = true then (if t148 = 4 then (if 0 ≤ (mn (wrap64 (rd x0_1 3)) (y158.length : Int)) then (if (mn (wrap64 (rd x0_1 3)) (y158.length : Int)) ≤ (y158.length : Int) then ((some (y158.take ((mn (wrap64 (rd x0_1 3)) (y158.length : Int)) : Int).toNat : List Int)).bind fun y163 => (if ([] : List Int).length + y163.length < 140737488355328 then (if x3_1.length < 2513169434916 then (code_Decode.l0 k1 (y158.drop ((mn (wrap64 (rd x0_1 3)) (y158.length : Int)) : Int).toNat) (x3_1 ++ [(⟨t148, t149, t150, t151, (([] : List Int) ++ y163)⟩ : S26)])) else (none)) else (none))) else (none)) else (none)) else (if x3_1.length < 2513169434916 then (code_Decode.l0 k1 y158 (x3_1 ++ [(⟨t148, t149, t150, t151, t152⟩ : S26)])) else (none))) else (code_Decode.l0 k1 y158 x3_1))) else (none)) else (none)) = some r := H
    have A3 := Aside0.mk A30
    clear A30
    by_cases c4 : 3 < (x0_1.length : Int)
    ·
     rw [if_pos c4] at H
     have c4b0 : decide (3 < (x0_1.length : Int)) = true := decide_eq_true c4
     have c4b1 : decide (3 < x0_1.length) = true := decide_eq_true (by omega)
     clear c4
     by_cases c5 : 4 ≤ (x0_1.length : Int)
     ·
      rw [if_pos c5] at H
      have c5b0 := eq_true c5
      have c5b1 : decide (4 ≤ (x0_1.length : Int)) = true := decide_eq_true c5
      clear c5
      obtain ⟨y158, hy158⟩ : ∃ y_ : List Int, y_ = (x0_1.drop 4) := ⟨_, rfl⟩
      replace H : (if t155 = true then (if t148 = 4 then (if 0 ≤ (mn (wrap64 (rd x0_1 3)) (y158.length : Int)) then (if (mn (wrap64 (rd x0_1 3)) (y158.length : Int)) ≤ (y158.length : Int) then ((some (y158.take ((mn (wrap64 (rd x0_1 3)) (y158.length : Int)) : Int).toNat : List Int)).bind fun y163 => (if ([] : List Int).length + y163.length < 140737488355328 then (if x3_1.length < 2513169434916 then (code_Decode.l0 k1 (y158.drop ((mn (wrap64 (rd x0_1 3)) (y158.length : Int)) : Int).toNat) (x3_1 ++ [(⟨t148, t149, t150, t151, (([] : List Int) ++ y163)⟩ : S26)])) else (none)) else (none))) else (none)) else (none)) else (if x3_1.length < 2513169434916 then (code_Decode.l0 k1 y158 (x3_1 ++ [(⟨t148, t149, t150, t151, t152⟩ : S26)])) else (none))) else (code_Decode.l0 k1 y158 x3_1)) = some r := by first | (rw [hy158]; with_reducible exact H) | (have H2_ := (Option.bind_some _ _).symm.trans H; rw [hy158]; with_reducible exact H2_) | (have H2_ := (Option.bind_some _ _).symm.trans H; with_reducible exact H2_) | with_reducible exact H | (rw [hy158]; exact H) | exact H
      have Ny158 := Aside0.mk hy158
      clear hy158
      by_cases c6 : t155 = true
      ·
       subst c6
       have H1 : (if t148 = 4 then (if 0 ≤ (mn (wrap64 (rd x0_1 3)) (y158.length : Int)) then (if (mn (wrap64 (rd x0_1 3)) (y158.length : Int)) ≤ (y158.length : Int) then ((some (y158.take ((mn (wrap64 (rd x0_1 3)) (y158.length : Int)) : Int).toNat : List Int)).bind fun y163 => (if ([] : List Int).length + y163.length < 140737488355328 then (if x3_1.length < 2513169434916 then (code_Decode.l0 k1 (y158.drop ((mn (wrap64 (rd x0_1 3)) (y158.length : Int)) : Int).toNat) (x3_1 ++ [(⟨t148, t149, t150, t151, (([] : List Int) ++ y163)⟩ : S26)])) else (none)) else (none))) else (none)) else (none)) else (if x3_1.length < 2513169434916 then (code_Decode.l0 k1 y158 (x3_1 ++ [(⟨t148, t149, t150, t151, t152⟩ : S26)])) else (none))) = some r := by rw [if_pos rfl] at H; exact H
       clear H
       have H := H1
       clear H1
       by_cases c7 : t148 = 4
       ·
        rw [if_pos c7] at H
        have c7b0 : (t148 == 4) = true := beq_iff_eq.mpr c7
        have c7b1 : (t148 != 4) = false := bne_eq_false_iff_eq.mpr c7
        clear c7
        obtain ⟨ji8, hji8⟩ : ∃ j_ : Int, (mn (wrap64 (rd x0_1 3)) (y158.length : Int)) = j_ := ⟨_, rfl⟩
        replace H : (if 0 ≤ (ji8) then (if (ji8) ≤ (y158.length : Int) then ((some (y158.take ((ji8) : Int).toNat : List Int)).bind fun y163 => (if ([] : List Int).length + y163.length < 140737488355328 then (if x3_1.length < 2513169434916 then (code_Decode.l0 k1 (y158.drop ((ji8) : Int).toNat) (x3_1 ++ [(⟨t148, t149, t150, t151, (([] : List Int) ++ y163)⟩ : S26)])) else (none)) else (none))) else (none)) else (none)) = some r := by first | (rw [hji8] at H; exact H) | (simp only [hji8] at H ⊢; exact H)
        (try rw [hji8] at A3)
        have hji8_ : (if (y158.length : Int) < (wrap64 (rd x0_1 3)) then (y158.length : Int) else (wrap64 (rd x0_1 3))) = ji8 := hji8
        by_cases c9 : 0 ≤ (ji8)
        ·
         rw [if_pos c9] at H
         have c9b0 := eq_true c9
         have c9b1 : decide (0 ≤ (ji8)) = true := decide_eq_true c9
         clear c9
         by_cases c10 : (ji8) ≤ (y158.length : Int)
         ·
          rw [if_pos c10] at H
          have c10b0 := eq_true c10
          have c10b1 : decide ((ji8) ≤ (y158.length : Int)) = true := decide_eq_true c10
          clear c10
          obtain ⟨y163, hy163⟩ : ∃ y_ : List Int, y_ = (y158.take ((ji8) : Int).toNat) := ⟨_, rfl⟩
          replace H : (if ([] : List Int).length + y163.length < 140737488355328 then (if x3_1.length < 2513169434916 then (code_Decode.l0 k1 (y158.drop ((ji8) : Int).toNat) (x3_1 ++ [(⟨t148, t149, t150, t151, (([] : List Int) ++ y163)⟩ : S26)])) else (none)) else (none)) = some r := by first | (rw [hy163]; with_reducible exact H) | (have H2_ := (Option.bind_some _ _).symm.trans H; rw [hy163]; with_reducible exact H2_) | (have H2_ := (Option.bind_some _ _).symm.trans H; with_reducible exact H2_) | with_reducible exact H | (rw [hy163]; exact H) | exact H
          have Ny163 := Aside0.mk hy163
          clear hy163
          by_cases c11 : ([] : List Int).length + y163.length < 140737488355328
          ·
           rw [if_pos c11] at H
           have LMc11 := Aside0.mk c11
           clear c11
           obtain ⟨y168, hy168⟩ : ∃ y_ : List Int, y_ = (([] : List Int) ++ y163) := ⟨_, rfl⟩
           replace H : (if x3_1.length < 2513169434916 then (code_Decode.l0 k1 (y158.drop ((ji8) : Int).toNat) (x3_1 ++ [(⟨t148, t149, t150, t151, y168⟩ : S26)])) else (none)) = some r := by first | (rw [hy168]; with_reducible exact H) | (have H2_ := (Option.bind_some _ _).symm.trans H; rw [hy168]; with_reducible exact H2_) | (have H2_ := (Option.bind_some _ _).symm.trans H; with_reducible exact H2_) | with_reducible exact H | (rw [hy168]; exact H) | exact H
           have Ny168 := Aside0.mk hy168
           clear hy168
           have c12b0 := eq_true (of_decide_eq_true (by first | (with_reducible assumption) | assumption) : 0 ≤ (ji8))
           have c13b0 := eq_true (of_decide_eq_true (by first | (with_reducible assumption) | assumption) : (ji8) ≤ (y158.length : Int))
           obtain ⟨y171, hy171⟩ : ∃ y_ : List Int, y_ = (y158.drop ((ji8) : Int).toNat) := ⟨_, rfl⟩
           replace H : (if x3_1.length < 2513169434916 then (code_Decode.l0 k1 y171 (x3_1 ++ [(⟨t148, t149, t150, t151, y168⟩ : S26)])) else (none)) = some r := by first | (rw [hy171]; with_reducible exact H) | (have H2_ := (Option.bind_some _ _).symm.trans H; rw [hy171]; with_reducible exact H2_) | (have H2_ := (Option.bind_some _ _).symm.trans H; with_reducible exact H2_) | with_reducible exact H | (rw [hy171]; exact H) | exact H
           have Ny171 := Aside0.mk hy171
           clear hy171
           by_cases c14 : x3_1.length < 2513169434916
           ·
            rw [if_pos c14] at H
            have LMc14 := Aside0.mk c14
            clear c14
            obtain ⟨y176, hy176⟩ : ∃ y_ : List (S26), y_ = (x3_1 ++ [(⟨t148, t149, t150, t151, y168⟩ : S26)]) := ⟨_, rfl⟩
            replace H : (code_Decode.l0 k1 y171 y176) = some r := by first | (rw [hy176]; with_reducible exact H) | (have H2_ := (Option.bind_some _ _).symm.trans H; rw [hy176]; with_reducible exact H2_) | (have H2_ := (Option.bind_some _ _).symm.trans H; with_reducible exact H2_) | with_reducible exact H | (rw [hy176]; exact H) | exact H
            have Ny176 := Aside0.mk hy176
            clear hy176
            have H' := Aside0.mk H
            clear H
            obtain ⟨Ao15, co15, eo15⟩ := Kd.V_slice HO_0.out
            subst eo15
            try go_wp2_with (first | ((with_reducible refine gate_callee (f := 39) rfl ?_); refine goesL_ (some 13) rfl rfl Try.func39 (by kernel_rfl) rfl #[.slice Ao15 x0_1.length co15] rfl (by (try simp only [List.map_toArray, List.map_cons, List.map_nil]); first | done | rfl | (simp only [List.length_drop, List.length_take]; rfl)) ?_; (with_reducible refine (code_decode.calls k1 _ _ x0_1 t148 t149 t150 t151 t152 true _ ?side1 ?side2 A3.out).mono ?_); (case side1 => repeat (first | exact (Kd.V_reads' HO_0.out).2.2 | (with_reducible refine Kd.C_alloc ?_ _) | (with_reducible refine Kd.C_drewN ?_ _) | (with_reducible refine Kd.C_drew ?_))); (case side2 => exact (Kd.V_reads' HO_0.out).2.1); rintro e w16 ⟨v153, rfl, ho0, hb⟩; refine ⟨_, rfl, ?_⟩; have n0_ := Aside0.mk (Kd.V_elder' (by (with_reducible repeat (first | apply Kd.V_alloc | apply Kd.V_drewN | apply Kd.V_drew)); exact HO_0.out) (Kd.R_base ho0) hb); have n1_ := Aside0.mk (Kd.S_elder' (by (with_reducible repeat (first | apply Kd.S_alloc | apply Kd.S_drewN | apply Kd.S_drew)); exact HO_3.out) (Kd.R_base ho0) hb); have n2_ := Aside0.mk (Kd.R_lower (Kd.R_newM (M := fun k_ => (w.heap.size ≤ k_)) ho0 (below_size (by repeat (first | (with_reducible first | exact HB.out | apply below_alloc | apply pw_below_drewN | apply below_drew1) | exact HB.out))) (fun k_ h_ => h_)) (below_size (by repeat (first | (with_reducible first | exact HB.out | apply below_alloc | apply pw_below_drewN | apply below_drew1) | exact HB.out)))); have n3_ := Aside0.mk (below_step (by repeat (first | (with_reducible first | exact HB.out | apply below_alloc | apply pw_below_drewN | apply below_drew1) | exact HB.out)) hb); clear HO_0; clear HO_3; clear HB; have HO_0 := n0_; have HO_3 := n1_; have HO154 := n2_; have HB := n3_; clear n0_ n1_ n2_ n3_; (try clear hb); (try clear hb2); (try clear hk); (try clear hi); (try clear ho0)) | ((with_reducible refine gate_dst (N := 4) rfl ?_); refine box_event ?hg (N := 4) ?hd (cs := #[.int .i64 0, .int .i64 0, .int .i64 0, .int .i64 0, .slice none 0 0]) (t := 26) ?hr ?_; (case hd => rfl); (case hg => rfl); (case hr => first | (go_simp; done) | (go_simp; rfl)); intro gb156 hg w17 hbox hb; have n0_ := Aside0.mk (Kd.V_below (Kd.V_elderB (by (with_reducible repeat (first | apply Kd.V_alloc | apply Kd.V_drewN | apply Kd.V_drew)); exact HO_0.out) gb156 (Nat.le_of_eq hg.symm)) hb); have n1_ := Aside0.mk (Kd.S_below (Kd.S_elderB (by (with_reducible repeat (first | apply Kd.S_alloc | apply Kd.S_drewN | apply Kd.S_drew)); exact HO_3.out) gb156 (Nat.le_of_eq hg.symm)) hb); have n2_ := Aside0.mk (Kd.R_below (by (with_reducible repeat (first | apply Kd.R_alloc | apply Kd.R_drewN | apply Kd.R_drew)); exact HO154.out) hb); have n3_ := Aside0.mk (below_step (by repeat (first | (with_reducible first | exact HB.out | apply below_alloc | apply pw_below_drewN | apply below_drew1) | exact HB.out)) hb); have n4_ := Aside0.mk (hbox); have n5_ := Aside0.mk ((by rw [hg]; exact (below_size (by repeat (first | (with_reducible first | exact HB.out | apply below_alloc | apply pw_below_drewN | apply below_drew1) | exact HB.out))) : w.heap.size ≤ gb156)); have n6_ := Aside0.mk ((by rw [hg]; exact (below_size (by repeat (first | (with_reducible first | exact HB.out | apply below_alloc | apply pw_below_drewN | apply below_drew1) | exact HB.out))) : w.heap.size ≤ gb156)); clear HO_0; clear HO_3; clear HO154; clear HB; have HO_0 := n0_; have HO_3 := n1_; have HO154 := n2_; have HB := n3_; have BK156 := n4_; have GW156 := n5_; have GE156 := n6_; clear n0_ n1_ n2_ n3_ n4_ n5_ n6_; clear hb hbox hg; have hcz18_0 : w17.cell? ⟨gb156, 0, none⟩ = some (.int .i64 0) := (blk_cell BK156.out 0).trans rfl; have hcz18_1 : w17.cell? ⟨gb156, 1, none⟩ = some (.int .i64 0) := (blk_cell BK156.out 1).trans rfl; have hcz18_2 : w17.cell? ⟨gb156, 2, none⟩ = some (.int .i64 0) := (blk_cell BK156.out 2).trans rfl; have hcz18_3 : w17.cell? ⟨gb156, 3, none⟩ = some (.int .i64 0) := (blk_cell BK156.out 3).trans rfl; have hcz18_4 : w17.cell? ⟨gb156, 4, none⟩ = some (.slice none 0 0) := (blk_cell BK156.out 4).trans rfl; have hfz18_0 := blk_frozen BK156.out 0; have hfz18_1 := blk_frozen BK156.out 1; have hfz18_2 := blk_frozen BK156.out 2; have hfz18_3 := blk_frozen BK156.out 3; have hfz18_4 := blk_frozen BK156.out 4; obtain ⟨Ao19, co19, eo19⟩ := Kd.R_slice HO154.out; subst eo19) | ((with_reducible refine gate_store (t := 26) (p := 4) rfl ?_); refine store_event (t := 26) (p := 4) (v := ?vo_w20) (w1 := (((((w17.setCell ⟨gb156, 0, none⟩ (.int .i64 t148)).setCell ⟨gb156, 1, none⟩ (.int .i64 t149)).setCell ⟨gb156, 2, none⟩ (.int .i64 t150)).setCell ⟨gb156, 3, none⟩ (.int .i64 t151)).setCell ⟨gb156, 4, none⟩ (.slice Ao19 t152.length co19))) ?hg ?ho ?hn ?hr ?_; (case ho => rfl); (case hg => rfl); (case hn => rfl); (case hr => first | (go_simp; done) | (go_simp; rfl)); intro w20 hw; have n0_ : Aside0 (Kd.V (Kd.int .u8) 5 w20 w.heap.size (fun k_ => (P0_ k_ ∨ w.heap.size ≤ k_) ∧ some k_ ≠ (u3 : Value).ownBlock ∧ some k_ ≠ (.slice Ao19 t152.length co19 : Value).ownBlock ∧ k_ ≠ gb156) (.slice Ao15 x0_1.length co15) x0_1) := ⟨(by rw [hw]; exact (by (with_reducible repeat (first | apply Kd.V_alloc | apply Kd.V_drewN | apply Kd.V_drew)); exact Kd.V_mono (Kd.V_far (p := ⟨gb156, 4, none⟩) (Kd.V_far (p := ⟨gb156, 3, none⟩) (Kd.V_far (p := ⟨gb156, 2, none⟩) (Kd.V_far (p := ⟨gb156, 1, none⟩) (Kd.V_far (p := ⟨gb156, 0, none⟩) (Kd.V_mono HO_0.out (fun k_ hk => (⟨hk, hk.2⟩ : _ ∧ k_ ≠ gb156))) (fun _ hk => hk.2) (.int .i64 t148)) (fun _ hk => hk.2) (.int .i64 t149)) (fun _ hk => hk.2) (.int .i64 t150)) (fun _ hk => hk.2) (.int .i64 t151)) (fun _ hk => hk.2) (.slice Ao19 t152.length co19)) (fun _ hk => ⟨hk.1.1.1.1, ⟨hk.1.1.1.2, ⟨hk.1.1.2, hk.1.2⟩⟩⟩)))⟩; have n1_ : Aside0 (Kd.S k26 26 w20 w.heap.size (fun k_ => (w.heap.size ≤ k_) ∧ some k_ ≠ (.slice Ao19 t152.length co19 : Value).ownBlock ∧ k_ ≠ gb156) u3 x3_1) := ⟨(by rw [hw]; exact (by (with_reducible repeat (first | apply Kd.S_alloc | apply Kd.S_drewN | apply Kd.S_drew)); exact Kd.S_mono (Kd.S_far (p := ⟨gb156, 4, none⟩) (Kd.S_far (p := ⟨gb156, 3, none⟩) (Kd.S_far (p := ⟨gb156, 2, none⟩) (Kd.S_far (p := ⟨gb156, 1, none⟩) (Kd.S_far (p := ⟨gb156, 0, none⟩) (Kd.S_mono HO_3.out (fun k_ hk => (⟨hk, hk.2⟩ : _ ∧ k_ ≠ gb156))) (fun _ hk => hk.2) (.int .i64 t148)) (fun _ hk => hk.2) (.int .i64 t149)) (fun _ hk => hk.2) (.int .i64 t150)) (fun _ hk => hk.2) (.int .i64 t151)) (fun _ hk => hk.2) (.slice Ao19 t152.length co19)) (fun _ hk => ⟨hk.1.1.1, ⟨hk.1.1.2, hk.1.2⟩⟩)))⟩; have n2_ : Aside0 (Kd.R (Kd.int .u8) 5 w20 w.heap.size (fun k_ => (w.heap.size ≤ k_)) (.slice Ao19 t152.length co19) t152) := ⟨(by rw [hw]; exact (by (with_reducible repeat (first | apply Kd.R_alloc | apply Kd.R_drewN | apply Kd.R_drew)); exact Kd.R_mono (Kd.R_far (p := ⟨gb156, 4, none⟩) (Kd.R_far (p := ⟨gb156, 3, none⟩) (Kd.R_far (p := ⟨gb156, 2, none⟩) (Kd.R_far (p := ⟨gb156, 1, none⟩) (Kd.R_far (p := ⟨gb156, 0, none⟩) (Kd.R_types HO154.out BK156.out (by decide)) (fun _ hk => hk.2) (.int .i64 t148)) (fun _ hk => hk.2) (.int .i64 t149)) (fun _ hk => hk.2) (.int .i64 t150)) (fun _ hk => hk.2) (.int .i64 t151)) (fun _ hk => hk.2) (.slice Ao19 t152.length co19)) (fun _ hk => hk.1.1)))⟩; have n3_ : Aside0 (w20.heap[gb156]? = some (.cells #[.int .i64 t148, .int .i64 t149, .int .i64 t150, .int .i64 t151, .slice Ao19 t152.length co19] 26 (0, 0))) := ⟨(by rw [hw]; exact (by (with_reducible repeat (first | refine blk_drewN ?_ _ | refine blk_drew ?_ | refine blk_alloc ?_ _)); refine blk_put (cs := #[.int .i64 t148, .int .i64 t149, .int .i64 t150, .int .i64 t151, .slice none 0 0]) ?_ 4 _ rfl; (with_reducible repeat (first | refine blk_drewN ?_ _ | refine blk_drew ?_ | refine blk_alloc ?_ _)); refine blk_put (cs := #[.int .i64 t148, .int .i64 t149, .int .i64 t150, .int .i64 0, .slice none 0 0]) ?_ 3 _ rfl; (with_reducible repeat (first | refine blk_drewN ?_ _ | refine blk_drew ?_ | refine blk_alloc ?_ _)); refine blk_put (cs := #[.int .i64 t148, .int .i64 t149, .int .i64 0, .int .i64 0, .slice none 0 0]) ?_ 2 _ rfl; (with_reducible repeat (first | refine blk_drewN ?_ _ | refine blk_drew ?_ | refine blk_alloc ?_ _)); refine blk_put (cs := #[.int .i64 t148, .int .i64 0, .int .i64 0, .int .i64 0, .slice none 0 0]) ?_ 1 _ rfl; (with_reducible repeat (first | refine blk_drewN ?_ _ | refine blk_drew ?_ | refine blk_alloc ?_ _)); refine blk_put (cs := #[.int .i64 0, .int .i64 0, .int .i64 0, .int .i64 0, .slice none 0 0]) ?_ 0 _ rfl; (with_reducible repeat (first | refine blk_drewN ?_ _ | refine blk_drew ?_ | refine blk_alloc ?_ _)); exact BK156.out))⟩; have n4_ : Aside0 (Below w.heap.size w w20) := ⟨(by rw [hw]; exact (by repeat (first | (with_reducible first | exact HB.out | apply below_alloc | apply pw_below_drewN | apply below_drew1 | refine below_set ?_ GE156.out) | exact HB.out)))⟩; clear hw; clear HO_0; clear HO_3; clear HO154; clear BK156; clear HB; have HO_0 := n0_; have HO_3 := n1_; have HO154 := n2_; have BK156 := n3_; have HB := n4_; clear n0_ n1_ n2_ n3_ n4_; have p157 : 0 ≤ (3 : Int) := (by omega); have q157 : 3 < (x0_1.length : Int) := of_decide_eq_true (by first | (with_reducible assumption) | assumption); obtain ⟨ad157, e157, hx157_0⟩ := Kd.at_int (Kd.V_reads' HO_0.out).2.2 3 p157 q157; cases e157; (try simp only [show (3 : Int).toNat = 3 from rfl, Nat.reduceMul, Nat.reduceEqDiff, Go.Addr.add, ↓reduceIte] at hx157_0); have qi157 : (3 < x0_1.length) = True := eq_true (by omega); (try rw [show ((3 : Int)).toNat = 3 from rfl] at hx157_0); replace p157 := eq_true p157; replace q157 := eq_true q157; have q21 : (4 : Int) ≤ ((x0_1.length : Int) : Int) := of_decide_eq_true (by first | (with_reducible assumption) | assumption); obtain ⟨i021, hi021, _, hsz21, _⟩ := info_parts info5; have hroom21 : x0_1.length ≤ co15 := (Kd.V_reads' HO_0.out).2.1; have hC21 : Kd.F (Kd.int .u8) _ _ (some ad157) x0_1.length x0_1 := (Kd.V_at (base := w.heap.size) HO_0.out).2.2; have hcut21 := cut_from (P := Try.prog) 22 5 .i64 Try.underlying22 hi021 1 hsz21 (some ad157) x0_1.length co15 4 (by omega) q21; have hr21 := Kd.F_cut (m := (4 : Int).toNat) (c := co15) hC21 (by omega) hroom21; obtain ⟨A21, hA21⟩ : ∃ A1, A1 = (if co15 = (4 : Int).toNat then (some ad157) else ((some ad157) : Option Addr).map (·.add ((4 : Int).toNat * 1))) := ⟨_, rfl⟩; obtain ⟨c21, hc21⟩ : ∃ c1, c1 = co15 - (4 : Int).toNat := ⟨_, rfl⟩; have hy21 : y158.length = x0_1.length - (4 : Int).toNat := (by rw [Ny158.out, List.length_drop] <;> omega); rw [show (x0_1).drop (4 : Int).toNat = y158 from Ny158.out.symm] at hr21; replace hr21 : Kd.F (Kd.int .u8) _ _ A21 y158.length y158 := (by rw [hA21]; exact hr21); rw [← hy21, ← hA21, ← hc21] at hcut21; have HO162 := Aside0.mk (show Kd.V (Kd.int .u8) 5 _ w.heap.size _ (.slice A21 y158.length c21) y158 from Kd.V_mk (by rw [hy21, hc21]; exact Nat.sub_le_sub_right hroom21 _) hr21); have HC162 := Aside0.mk (show y158.length ≤ c21 from by rw [hy21, hc21]; exact Nat.sub_le_sub_right hroom21 _); clear hr21 hC21 hroom21 hi021 hsz21 hc21; have KY21 := Aside0.mk hy21; have KA21 := Aside0.mk hA21; clear hy21 hA21; replace q21 := eq_true q21; have hcz22_0 : w20.cell? ⟨gb156, 0, none⟩ = some (.int .i64 t148) := (blk_cell BK156.out 0).trans rfl; have hcz22_1 : w20.cell? ⟨gb156, 1, none⟩ = some (.int .i64 t149) := (blk_cell BK156.out 1).trans rfl; have hcz22_2 : w20.cell? ⟨gb156, 2, none⟩ = some (.int .i64 t150) := (blk_cell BK156.out 2).trans rfl; have hcz22_3 : w20.cell? ⟨gb156, 3, none⟩ = some (.int .i64 t151) := (blk_cell BK156.out 3).trans rfl; have hcz22_4 : w20.cell? ⟨gb156, 4, none⟩ = some (.slice Ao19 t152.length co19) := (blk_cell BK156.out 4).trans rfl; have hfz22_0 := blk_frozen BK156.out 0; have hfz22_1 := blk_frozen BK156.out 1; have hfz22_2 := blk_frozen BK156.out 2; have hfz22_3 := blk_frozen BK156.out 3; have hfz22_4 := blk_frozen BK156.out 4))
            have n0_ := Aside0.mk (Kd.V_drew HO_0.out)
            have n1_ := Aside0.mk (Kd.S_drew HO_3.out)
            have n2_ := Aside0.mk (Kd.R_drew HO154.out)
            have n3_ := Aside0.mk (Kd.V_drew HO162.out)
            have n4_ := Aside0.mk (blk_drew BK156.out)
            have n5_ := Aside0.mk (below_drew1 HB.out)
            clear HO_0
            clear HO_3
            clear HO154
            clear HO162
            clear BK156
            clear HB
            have HO_0 := n0_
            have HO_3 := n1_
            have HO154 := n2_
            have HO162 := n3_
            have BK156 := n4_
            have HB := n5_
            clear n0_ n1_ n2_ n3_ n4_ n5_
            have q24 : ((ji8) : Int) ≤ ((y158.length : Int) : Int) := of_decide_eq_true (by first | (with_reducible assumption) | assumption)
            obtain ⟨i024, hi024, _, hsz24, _⟩ := info_parts info5
            have hroom24 : y158.length ≤ c21 := (Kd.V_reads' HO162.out).2.1
            have hC24 : Kd.F (Kd.int .u8) _ _ A21 y158.length y158 := (Kd.V_at (base := w.heap.size) HO162.out).2.2
            have hcut24 := cut_to (P := Try.prog) 22 5 .i64 Try.underlying22 hi024 A21 y158.length c21 (ji8) (of_decide_eq_true (by first | (with_reducible assumption) | assumption)) q24 hroom24
            have hr24 := Kd.F_take (m := ((ji8) : Int).toNat) hC24 (by omega)
            have hy24 : y163.length = ((ji8) : Int).toNat := (by rw [Ny163.out, List.length_take]; omega)
            rw [← Ny163.out] at hr24
            rw [← hy24] at hcut24
            have HO167 := Aside0.mk (show Kd.V (Kd.int .u8) 5 _ w.heap.size _ (.slice A21 y163.length c21) y163 from Kd.V_mk (by omega) hr24)
            have HC167 := Aside0.mk (show y163.length ≤ c21 from by omega)
            clear hr24 hC24 hroom24 hi024 hsz24
            have KY24 := Aside0.mk hy24
            clear hy24
            replace q24 := eq_true q24
            have q25 : ((ji8) : Int) ≤ ((y158.length : Int) : Int) := of_decide_eq_true (by first | (with_reducible assumption) | assumption)
            obtain ⟨i025, hi025, _, hsz25, _⟩ := info_parts info5
            have hroom25 : y158.length ≤ c21 := (Kd.V_reads' HO162.out).2.1
            have hC25 : Kd.F (Kd.int .u8) _ _ A21 y158.length y158 := (Kd.V_at (base := w.heap.size) HO162.out).2.2
            have q025 : (0 : Int) ≤ ((ji8) : Int) := of_decide_eq_true (by first | (with_reducible assumption) | assumption)
            have hcut25 := cut_from (P := Try.prog) 22 5 .i64 Try.underlying22 hi025 1 hsz25 A21 y158.length c21 (ji8) q025 q25
            have hr25 := Kd.F_cut (m := ((ji8) : Int).toNat) (c := c21) hC25 (by omega) hroom25
            obtain ⟨A25, hA25⟩ : ∃ A1, A1 = (if c21 = ((ji8) : Int).toNat then A21 else (A21 : Option Addr).map (·.add (((ji8) : Int).toNat * 1))) := ⟨_, rfl⟩
            obtain ⟨c25, hc25⟩ : ∃ c1, c1 = c21 - ((ji8) : Int).toNat := ⟨_, rfl⟩
            have hy25 : y171.length = y158.length - ((ji8) : Int).toNat := (by rw [Ny171.out, List.length_drop] <;> omega)
            rw [show (y158).drop ((ji8) : Int).toNat = y171 from Ny171.out.symm] at hr25
            replace hr25 : Kd.F (Kd.int .u8) _ _ A25 y171.length y171 := (by rw [hA25]; exact hr25)
            rw [← hy25, ← hA25, ← hc25] at hcut25
            have HO175 := Aside0.mk (show Kd.V (Kd.int .u8) 5 _ w.heap.size _ (.slice A25 y171.length c25) y171 from Kd.V_mk (by rw [hy25, hc25]; exact Nat.sub_le_sub_right hroom25 _) hr25)
            have HC175 := Aside0.mk (show y171.length ≤ c25 from by rw [hy25, hc25]; exact Nat.sub_le_sub_right hroom25 _)
            clear hr25 hC25 hroom25 hi025 hsz25 hc25
            have KY25 := Aside0.mk hy25
            have KA25 := Aside0.mk hA25
            clear hy25 hA25
            replace q25 := eq_true q25
            refine start_ (n := 10) (S := fun w' => True) (ds := []) (onA 10 0) (by kernel_rfl) rfl rfl trivial (fun hHeld => ?_); refine with_tabW code_Decode.tab9 code_Decode.bits9 (fun HT_ HW_ => ?_)
            generalize w20.drew = w23 at HO_0 HO_3 HO154 HO162 BK156 HB HO167 HO175 hHeld ⊢
            refine pure_ (i := 0) (N := some 31) (v := ?_) (a' := ?_) (onA 10 1) rfl rfl (any_of HT_.out (by kernel_rfl)) (fun _ _ _ h => h) (Or.inl ⟨by rfl, ?_⟩) ?_ ?_
            rotate_left
            ·
             intro w'
             go_simp
             with_reducible rfl
            rotate_left
            ·
             simp only [Act.put, List.setIfInBounds_toArray, List.set_cons_zero, List.set_cons_succ, i64_w, i32_w]
             rfl
            refine pure_ (i := 1) (N := some 32) (v := ?_) (a' := ?_) (onA 10 2) rfl rfl (any_of HT_.out (by kernel_rfl)) (fun _ _ _ h => h) (Or.inl ⟨by rfl, ?_⟩) ?_ ?_
            rotate_left
            ·
             intro w'
             go_simp
             with_reducible rfl
            rotate_left
            ·
             simp only [Act.put, List.setIfInBounds_toArray, List.set_cons_zero, List.set_cons_succ, i64_w, i32_w]
             rfl
            refine pure_ (i := 2) (N := some 33) (v := ?_) (a' := ?_) (onA 10 3) rfl rfl (any_of HT_.out (by kernel_rfl)) (fun _ _ _ h => h) (Or.inl ⟨by rfl, ?_⟩) ?_ ?_
            rotate_left
            ·
             intro w'
             go_simp
             with_reducible rfl
            rotate_left
            ·
             simp only [Act.put, List.setIfInBounds_toArray, List.set_cons_zero, List.set_cons_succ, i64_w, i32_w]
             rfl
            refine pure_ (i := 4) (N := some 35) (v := ?_) (a' := ?_) #[tt_, tt_, tt_, ff_, tt_, ff_, ff_, ff_, ff_, ff_] rfl rfl (any_of HT_.out (by kernel_rfl)) (fun _ _ _ h => h) (Or.inl ⟨by rfl, ?_⟩) ?_ ?_
            rotate_left
            ·
             intro w'
             go_simp
             with_reducible rfl
            rotate_left
            ·
             simp only [Act.put, List.setIfInBounds_toArray, List.set_cons_zero, List.set_cons_succ, i64_w, i32_w]
             rfl
            refine pure_ (i := 5) (N := some 36) (v := ?_) (a' := ?_) #[tt_, tt_, tt_, ff_, tt_, tt_, ff_, ff_, ff_, ff_] rfl rfl (any_of HT_.out (by kernel_rfl)) (fun _ _ _ h => h) (Or.inl ⟨by rfl, ?_⟩) ?_ ?_
            rotate_left
            ·
             intro w'
             go_simp
             with_reducible rfl
            rotate_left
            ·
             simp only [Act.put, List.setIfInBounds_toArray, List.set_cons_zero, List.set_cons_succ, i64_w, i32_w]
             rfl
            refine pure_ (i := 6) (N := some 37) (v := ?_) (a' := ?_) #[tt_, tt_, tt_, ff_, tt_, tt_, tt_, ff_, ff_, ff_] rfl rfl (any_of HT_.out (by kernel_rfl)) (fun _ _ _ h => h) (Or.inl ⟨by rfl, ?_⟩) ?_ ?_
            rotate_left
            ·
             intro w'
             go_simp
             with_reducible rfl
            rotate_left
            ·
             simp only [Act.put, List.setIfInBounds_toArray, List.set_cons_zero, List.set_cons_succ, i64_w, i32_w]
             rfl
            refine one_ (i := 3) (N := some 34) (onA 10 7) rfl rfl (one_of HT_.out (by kernel_rfl)) (by decide) (fun K hK => ?_)
            refine Kd.R_append_rows_step (Kd.int .u8) (w0 := w) w.heap.size (by rfl) (.const (.slice none 0 0)) (.tmp 33) 22 5 (.int .u8 0) 1 rfl Try.underlying22 info5 rfl (by decide) (by omega) (.slice none 0 0) ([] : List Int) y163 _ _ _ (fun k_ => (w.heap.size ≤ k_) ∧ some k_ ≠ (.slice Ao19 t152.length co19 : Value).ownBlock) (fun _ => False) rfl rfl ?aO ?aR (fun _ _ h => h) (fun _ h => h.elim) ?aF ?aB ?aS ?aL ?_
            (case aR => repeat (first | exact (Kd.V_reads' HO167.out).2.2 | (with_reducible refine Kd.C_alloc ?_ _) | (with_reducible refine Kd.C_drewN ?_ _) | (with_reducible refine Kd.C_drew ?_)))
            (case aB => exact (by repeat (first | (with_reducible first | exact HB.out | apply below_alloc | apply pw_below_drewN | apply below_drew1 | refine below_set ?_ GE156.out) | exact HB.out)))
            (case aF => exact (fun k_ hk => ⟨(Nat.le_trans (below_size (by repeat (first | (with_reducible first | exact HB.out | apply below_alloc | apply pw_below_drewN | apply below_drew1 | refine below_set ?_ GE156.out) | exact HB.out))) hk), Kd.fresh' (Kd.R_lt (by (with_reducible repeat (first | apply Kd.R_alloc | apply Kd.R_drewN | apply Kd.R_drew)); exact HO154.out)) k_ hk⟩))
            (case aO => exact ((Kd.R_nil _ _ _ _ (fun k_ => (w.heap.size ≤ k_) ∧ some k_ ≠ (.slice Ao19 t152.length co19 : Value).ownBlock))))
            (case aS => exact (below_size (by repeat (first | (with_reducible first | exact HB.out | apply below_alloc | apply pw_below_drewN | apply below_drew1 | refine below_set ?_ GE156.out) | exact HB.out))))
            (case aL => have := LMc11.out; omega)
            intro v169 w26 ho hb hg hat
            rw [← Ny168.out] at ho
            have n0_ := Aside0.mk (Kd.V_afterv (Kd.V_apart_nil (by (with_reducible repeat (first | apply Kd.V_alloc | apply Kd.V_drewN | apply Kd.V_drew)); exact HO_0.out)) hg hat)
            have n1_ := Aside0.mk (Kd.S_after (Kd.S_apart_nil (by (with_reducible repeat (first | apply Kd.S_alloc | apply Kd.S_drewN | apply Kd.S_drew)); exact HO_3.out)) hg hat)
            have n2_ := Aside0.mk (Kd.R_after (Kd.R_apart_nil (by (with_reducible repeat (first | apply Kd.R_alloc | apply Kd.R_drewN | apply Kd.R_drew)); exact HO154.out)) hg hat)
            have n3_ := Aside0.mk (blk_grown (g := gb156) (o := .cells #[.int .i64 t148, .int .i64 t149, .int .i64 t150, .int .i64 t151, .slice Ao19 t152.length co19] 26 (0, 0)) (by (with_reducible repeat (first | refine blk_drewN ?_ _ | refine blk_drew ?_ | refine blk_alloc ?_ _)); exact BK156.out) hg (by simp [Value.ownBlock]))
            have n4_ := Aside0.mk (Kd.V_afterv (Kd.V_apart_nil (by (with_reducible repeat (first | apply Kd.V_alloc | apply Kd.V_drewN | apply Kd.V_drew)); exact HO162.out)) hg hat)
            have n5_ := Aside0.mk (Kd.V_afterv (Kd.V_apart_nil (by (with_reducible repeat (first | apply Kd.V_alloc | apply Kd.V_drewN | apply Kd.V_drew)); exact HO167.out)) hg hat)
            have n6_ := Aside0.mk (Kd.V_afterv (Kd.V_apart_nil (by (with_reducible repeat (first | apply Kd.V_alloc | apply Kd.V_drewN | apply Kd.V_drew)); exact HO175.out)) hg hat)
            have n7_ := Aside0.mk (hb)
            have n8_ := Aside0.mk (ho)
            clear HO_0
            clear HO_3
            clear HO154
            clear BK156
            clear HO162
            clear HO167
            clear HO175
            clear HB
            have HO_0 := n0_
            have HO_3 := n1_
            have HO154 := n2_
            have BK156 := n3_
            have HO162 := n4_
            have HO167 := n5_
            have HO175 := n6_
            have HB := n7_
            have HO170 := n8_
            clear n0_ n1_ n2_ n3_ n4_ n5_ n6_ n7_ n8_
            clear ho hb hg hat
            obtain ⟨Ao27, co27, eo27⟩ := Kd.R_slice HO170.out
            (first | subst eo27 | (injection eo27 with f1_ f2_ f3_; have f4_ := f1_.symm; have f5_ := f3_.symm; clear f1_ f2_ f3_; subst f4_; subst f5_))
            refine hK.out _ _ trivial (fun hHeld => ?_)
            clear hK K
            refine norm_ (a' := ?_) ?_ ?_
            rotate_left
            ·
             show Act.put _ (some 34) _ = _
             simp only [Act.put, List.setIfInBounds_toArray, List.set_cons_zero, List.set_cons_succ, i64_w, i32_w]
             rfl
            refine pure_ (i := 7) (N := some 38) (v := ?_) (a' := ?_) (onA 10 8) rfl rfl (any_of HT_.out (by kernel_rfl)) (fun _ _ _ h => h) (Or.inl ⟨by rfl, ?_⟩) ?_ ?_
            rotate_left
            ·
             intro w'
             go_simp
             with_reducible rfl
            rotate_left
            ·
             simp only [Act.put, List.setIfInBounds_toArray, List.set_cons_zero, List.set_cons_succ, i64_w, i32_w]
             rfl
            refine one_ (i := 8) (N := none) (onA 10 9) rfl rfl (one_of HT_.out (by kernel_rfl)) (by decide) (fun K hK => ?_)
            have hs28 : w26.cell? ⟨gb156, 4, none⟩ = some (.slice Ao19 t152.length co19) := (blk_cell BK156.out 4).trans rfl
            have hfs28 := blk_frozen BK156.out 4
            refine skip_ (w1 := ?_) (by rfl) rfl ?_ ?_
            rotate_left
            ·
             go_simp
             rfl
            refine hK.out _ _ trivial (fun hHeld => ?_)
            clear hK K
            refine pure_ (i := 9) (N := some 0) (v := ?_) (a' := ?_) (onA 10 10) rfl rfl (any_of HT_.out (by kernel_rfl)) (fun _ _ _ h => h) (Or.inl ⟨by rfl, ?_⟩) ?_ ?_
            rotate_left
            ·
             intro w'
             go_simp
             with_reducible rfl
            rotate_left
            ·
             simp only [Act.put, List.setIfInBounds_toArray, List.set_cons_zero, List.set_cons_succ, i64_w, i32_w]
             rfl
            refine done_ (done_of HT_.out (by kernel_rfl)) ?_
            have n0_ : Aside0 (Kd.V (Kd.int .u8) 5 (w26.setCell ⟨gb156, 4, none⟩ (.slice Ao27 y168.length co27)) w.heap.size (fun k_ => (P0_ k_ ∨ w.heap.size ≤ k_) ∧ some k_ ≠ (u3 : Value).ownBlock ∧ some k_ ≠ (.slice Ao19 t152.length co19 : Value).ownBlock ∧ some k_ ≠ (.slice Ao27 y168.length co27 : Value).ownBlock ∧ k_ ≠ gb156) (.slice (some ad157) x0_1.length co15) x0_1) := ⟨by (with_reducible repeat (first | apply Kd.V_alloc | apply Kd.V_drewN | apply Kd.V_drew)); exact Kd.V_mono (Kd.V_far (p := ⟨gb156, 4, none⟩) (Kd.V_mono HO_0.out (fun k_ hk => (⟨hk, hk.1.2.2.2⟩ : _ ∧ k_ ≠ gb156))) (fun _ hk => hk.2) (.slice Ao27 y168.length co27)) (fun _ hk => ⟨hk.1.1.1, ⟨hk.1.1.2.1, ⟨hk.1.1.2.2.1, ⟨hk.1.2, hk.1.1.2.2.2⟩⟩⟩⟩)⟩
            have n1_ : Aside0 (Kd.S k26 26 (w26.setCell ⟨gb156, 4, none⟩ (.slice Ao27 y168.length co27)) w.heap.size (fun k_ => (w.heap.size ≤ k_) ∧ some k_ ≠ (.slice Ao19 t152.length co19 : Value).ownBlock ∧ some k_ ≠ (.slice Ao27 y168.length co27 : Value).ownBlock ∧ k_ ≠ gb156) u3 x3_1) := ⟨by (with_reducible repeat (first | apply Kd.S_alloc | apply Kd.S_drewN | apply Kd.S_drew)); exact Kd.S_mono (Kd.S_far (p := ⟨gb156, 4, none⟩) (Kd.S_mono HO_3.out (fun k_ hk => (⟨hk, hk.1.2.2⟩ : _ ∧ k_ ≠ gb156))) (fun _ hk => hk.2) (.slice Ao27 y168.length co27)) (fun _ hk => ⟨hk.1.1.1, ⟨hk.1.1.2.1, ⟨hk.1.2, hk.1.1.2.2⟩⟩⟩)⟩
            have n2_ : Aside0 (Kd.R (Kd.int .u8) 5 (w26.setCell ⟨gb156, 4, none⟩ (.slice Ao27 y168.length co27)) w.heap.size (fun k_ => (w.heap.size ≤ k_) ∧ some k_ ≠ (.slice Ao27 y168.length co27 : Value).ownBlock) (.slice Ao19 t152.length co19) t152) := ⟨by (with_reducible repeat (first | apply Kd.R_alloc | apply Kd.R_drewN | apply Kd.R_drew)); exact Kd.R_mono (Kd.R_far (p := ⟨gb156, 4, none⟩) (Kd.R_types HO154.out BK156.out (by decide)) (fun _ hk => hk.2) (.slice Ao27 y168.length co27)) (fun _ hk => ⟨hk.1.1, hk.1.2⟩)⟩
            have n3_ : Aside0 (Kd.V (Kd.int .u8) 5 (w26.setCell ⟨gb156, 4, none⟩ (.slice Ao27 y168.length co27)) w.heap.size (fun k_ => (P0_ k_ ∨ w.heap.size ≤ k_) ∧ some k_ ≠ (u3 : Value).ownBlock ∧ some k_ ≠ (.slice Ao19 t152.length co19 : Value).ownBlock ∧ some k_ ≠ (.slice Ao27 y168.length co27 : Value).ownBlock ∧ k_ ≠ gb156) (.slice A21 y158.length c21) y158) := ⟨by (with_reducible repeat (first | apply Kd.V_alloc | apply Kd.V_drewN | apply Kd.V_drew)); exact Kd.V_mono (Kd.V_far (p := ⟨gb156, 4, none⟩) (Kd.V_mono HO162.out (fun k_ hk => (⟨hk, hk.1.2.2.2⟩ : _ ∧ k_ ≠ gb156))) (fun _ hk => hk.2) (.slice Ao27 y168.length co27)) (fun _ hk => ⟨hk.1.1.1, ⟨hk.1.1.2.1, ⟨hk.1.1.2.2.1, ⟨hk.1.2, hk.1.1.2.2.2⟩⟩⟩⟩)⟩
            have n4_ : Aside0 (Kd.V (Kd.int .u8) 5 (w26.setCell ⟨gb156, 4, none⟩ (.slice Ao27 y168.length co27)) w.heap.size (fun k_ => (P0_ k_ ∨ w.heap.size ≤ k_) ∧ some k_ ≠ (u3 : Value).ownBlock ∧ some k_ ≠ (.slice Ao19 t152.length co19 : Value).ownBlock ∧ some k_ ≠ (.slice Ao27 y168.length co27 : Value).ownBlock ∧ k_ ≠ gb156) (.slice A21 y163.length c21) y163) := ⟨by (with_reducible repeat (first | apply Kd.V_alloc | apply Kd.V_drewN | apply Kd.V_drew)); exact Kd.V_mono (Kd.V_far (p := ⟨gb156, 4, none⟩) (Kd.V_mono HO167.out (fun k_ hk => (⟨hk, hk.1.2.2.2⟩ : _ ∧ k_ ≠ gb156))) (fun _ hk => hk.2) (.slice Ao27 y168.length co27)) (fun _ hk => ⟨hk.1.1.1, ⟨hk.1.1.2.1, ⟨hk.1.1.2.2.1, ⟨hk.1.2, hk.1.1.2.2.2⟩⟩⟩⟩)⟩
            have n5_ : Aside0 (Kd.V (Kd.int .u8) 5 (w26.setCell ⟨gb156, 4, none⟩ (.slice Ao27 y168.length co27)) w.heap.size (fun k_ => (P0_ k_ ∨ w.heap.size ≤ k_) ∧ some k_ ≠ (u3 : Value).ownBlock ∧ some k_ ≠ (.slice Ao19 t152.length co19 : Value).ownBlock ∧ some k_ ≠ (.slice Ao27 y168.length co27 : Value).ownBlock ∧ k_ ≠ gb156) (.slice A25 y171.length c25) y171) := ⟨by (with_reducible repeat (first | apply Kd.V_alloc | apply Kd.V_drewN | apply Kd.V_drew)); exact Kd.V_mono (Kd.V_far (p := ⟨gb156, 4, none⟩) (Kd.V_mono HO175.out (fun k_ hk => (⟨hk, hk.1.2.2.2⟩ : _ ∧ k_ ≠ gb156))) (fun _ hk => hk.2) (.slice Ao27 y168.length co27)) (fun _ hk => ⟨hk.1.1.1, ⟨hk.1.1.2.1, ⟨hk.1.1.2.2.1, ⟨hk.1.2, hk.1.1.2.2.2⟩⟩⟩⟩)⟩
            have n6_ : Aside0 (Kd.R (Kd.int .u8) 5 (w26.setCell ⟨gb156, 4, none⟩ (.slice Ao27 y168.length co27)) w.heap.size (fun k_ => (w.heap.size ≤ k_) ∧ some k_ ≠ (.slice Ao19 t152.length co19 : Value).ownBlock) (.slice Ao27 y168.length co27) y168) := ⟨by (with_reducible repeat (first | apply Kd.R_alloc | apply Kd.R_drewN | apply Kd.R_drew)); exact Kd.R_mono (Kd.R_far (p := ⟨gb156, 4, none⟩) (Kd.R_types HO170.out BK156.out (by decide)) (fun _ hk => hk.2) (.slice Ao27 y168.length co27)) (fun _ hk => ⟨hk.1.1, hk.1.2⟩)⟩
            have n7_ : Aside0 ((w26.setCell ⟨gb156, 4, none⟩ (.slice Ao27 y168.length co27)).heap[gb156]? = some (.cells #[.int .i64 t148, .int .i64 t149, .int .i64 t150, .int .i64 t151, .slice Ao27 y168.length co27] 26 (0, 0))) := ⟨by (with_reducible repeat (first | refine blk_drewN ?_ _ | refine blk_drew ?_ | refine blk_alloc ?_ _)); refine blk_put (cs := #[.int .i64 t148, .int .i64 t149, .int .i64 t150, .int .i64 t151, .slice Ao19 t152.length co19]) ?_ 4 _ rfl; (with_reducible repeat (first | refine blk_drewN ?_ _ | refine blk_drew ?_ | refine blk_alloc ?_ _)); exact BK156.out⟩
            have n8_ : Aside0 (Below w.heap.size w (w26.setCell ⟨gb156, 4, none⟩ (.slice Ao27 y168.length co27))) := ⟨by repeat (first | (with_reducible first | exact HB.out | apply below_alloc | apply pw_below_drewN | apply below_drew1 | refine below_set ?_ GE156.out) | exact HB.out)⟩
            (try clear HO_0)
            (try clear HO_3)
            (try clear HO154)
            (try clear HO162)
            (try clear HO167)
            (try clear HO175)
            (try clear HO170)
            (try clear BK156)
            (try clear HB)
            generalize (w26.setCell ⟨gb156, 4, none⟩ (.slice Ao27 y168.length co27)) = w29 at n0_ n1_ n2_ n3_ n4_ n5_ n6_ n7_ n8_ ⊢
            have HO_0 := n0_
            have HO_3 := n1_
            have HO154 := n2_
            have HO162 := n3_
            have HO167 := n4_
            have HO175 := n5_
            have HO170 := n6_
            have BK156 := n7_
            have HB := n8_
            clear n0_ n1_ n2_ n3_ n4_ n5_ n6_ n7_ n8_
            have hcz30_0 : w29.cell? ⟨gb156, 0, none⟩ = some (.int .i64 t148) := (blk_cell BK156.out 0).trans rfl
            have hcz30_1 : w29.cell? ⟨gb156, 1, none⟩ = some (.int .i64 t149) := (blk_cell BK156.out 1).trans rfl
            have hcz30_2 : w29.cell? ⟨gb156, 2, none⟩ = some (.int .i64 t150) := (blk_cell BK156.out 2).trans rfl
            have hcz30_3 : w29.cell? ⟨gb156, 3, none⟩ = some (.int .i64 t151) := (blk_cell BK156.out 3).trans rfl
            have hcz30_4 : w29.cell? ⟨gb156, 4, none⟩ = some (.slice Ao27 y168.length co27) := (blk_cell BK156.out 4).trans rfl
            have hfz30_0 := blk_frozen BK156.out 0
            have hfz30_1 := blk_frozen BK156.out 1
            have hfz30_2 := blk_frozen BK156.out 2
            have hfz30_3 := blk_frozen BK156.out 3
            have hfz30_4 := blk_frozen BK156.out 4
            try go_wp2_with (first | ((with_reducible refine gate_builtin (b := .append) (xs := #[.tmp 39, .tmp 41]) rfl ?_); at_builtin; refine Kd.S_append k26 (w0 := w) w.heap.size rfl (.tmp 39) (.tmp 41) 23 26 (.agg #[(.int .i64 0), (.int .i64 0), (.int .i64 0), (.int .i64 0), (.slice none 0 0)]) 56 rfl Try.underlying23 info26 rfl (by decide) (by omega) u3 x3_1 (⟨t148, t149, t150, t151, y168⟩ : S26) [.int .i64 t148, .int .i64 t149, .int .i64 t150, .int .i64 t151, .slice Ao27 y168.length co27] (fun k_ => (w.heap.size ≤ k_) ∧ some k_ ≠ (.slice Ao19 t152.length co19 : Value).ownBlock ∧ k_ ≠ gb156) (fun k_ => some k_ = (.slice Ao27 y168.length co27 : Value).ownBlock) rfl rfl ?aP (fun k_ hk_ => ((Kd.R_mono (ok' := fun k_ => ((fun k_ => (w.heap.size ≤ k_) ∧ some k_ ≠ (.slice Ao19 t152.length co19 : Value).ownBlock ∧ k_ ≠ gb156)) k_ ∧ some k_ ≠ (u3 : Value).ownBlock) (Kd.R_types (Kd.R_apart' (HO170.out) (Kd.S_typed HO_3.out) (by decide)) BK156.out (by decide)) (fun k_ hk => ⟨⟨hk.1.1.1, ⟨hk.1.1.2, hk.2⟩⟩, hk.1.2⟩))).1 k_ hk_.symm) ?aF ?aO ?aB ?aS ?aL ?_; (case aP => exact k26_mkM _ _ _ (⟨t148, t149, t150, t151, y168⟩ : S26) (Kd.R_mono (Kd.R_tight rfl (Kd.R_mono (ok' := fun k_ => ((fun k_ => (w.heap.size ≤ k_) ∧ some k_ ≠ (.slice Ao19 t152.length co19 : Value).ownBlock ∧ k_ ≠ gb156)) k_ ∧ some k_ ≠ (u3 : Value).ownBlock) (Kd.R_types (Kd.R_apart' (HO170.out) (Kd.S_typed HO_3.out) (by decide)) BK156.out (by decide)) (fun k_ hk => ⟨⟨hk.1.1.1, ⟨hk.1.1.2, hk.2⟩⟩, hk.1.2⟩))) (fun _ h_ => h_))); (case aB => exact (by repeat (first | (with_reducible first | exact HB.out | apply below_alloc | apply pw_below_drewN | apply below_drew1 | refine below_set ?_ GE156.out) | exact HB.out))); (case aF => exact (fun k_ hk => ⟨(Nat.le_trans (below_size (by repeat (first | (with_reducible first | exact HB.out | apply below_alloc | apply pw_below_drewN | apply below_drew1 | refine below_set ?_ GE156.out) | exact HB.out))) hk), Kd.fresh' (Kd.R_lt (by (with_reducible repeat (first | apply Kd.R_alloc | apply Kd.R_drewN | apply Kd.R_drew)); exact HO154.out)) k_ hk, Kd.freshB (g := gb156) (o := .cells #[.int .i64 t148, .int .i64 t149, .int .i64 t150, .int .i64 t151, .slice Ao27 y168.length co27] 26 (0, 0)) (by (with_reducible repeat (first | refine blk_drewN ?_ _ | refine blk_drew ?_ | refine blk_alloc ?_ _)); exact BK156.out) k_ hk⟩)); (case aO => exact (by (with_reducible repeat (first | apply Kd.S_alloc | apply Kd.S_drewN | apply Kd.S_drew)); exact Kd.S_mono HO_3.out (fun k_ hk => ⟨⟨hk.1, ⟨hk.2.1, hk.2.2.2⟩⟩, fun e_ => hk.2.2.1 e_⟩))); (case aS => exact (below_size (by repeat (first | (with_reducible first | exact HB.out | apply below_alloc | apply pw_below_drewN | apply below_drew1 | refine below_set ?_ GE156.out) | exact HB.out)))); (case aL => have := LMc14.out; omega); intro v177 w31 ho hb hg hat; rw [← Ny176.out] at ho; have n0_ := Aside0.mk (Kd.V_afterv (ok := (fun k_ => (P0_ k_ ∨ w.heap.size ≤ k_) ∧ some k_ ≠ (.slice Ao19 t152.length co19 : Value).ownBlock ∧ some k_ ≠ (.slice Ao27 y168.length co27 : Value).ownBlock ∧ k_ ≠ gb156)) (by (with_reducible repeat (first | apply Kd.V_alloc | apply Kd.V_drewN | apply Kd.V_drew)); exact Kd.V_mono HO_0.out (fun _ hk => ⟨⟨hk.1, ⟨hk.2.2.1, ⟨hk.2.2.2.1, hk.2.2.2.2⟩⟩⟩, hk.2.1⟩)) hg hat); have n1_ := Aside0.mk (Kd.R_over' (by (with_reducible repeat (first | apply Kd.R_alloc | apply Kd.R_drewN | apply Kd.R_drew)); exact HO154.out) (Kd.S_typed (by (with_reducible repeat (first | apply Kd.S_alloc | apply Kd.S_drewN | apply Kd.S_drew)); exact HO_3.out)) (by decide) hg); have n2_ := Aside0.mk (blk_grown (g := gb156) (o := .cells #[.int .i64 t148, .int .i64 t149, .int .i64 t150, .int .i64 t151, .slice Ao27 y168.length co27] 26 (0, 0)) (by (with_reducible repeat (first | refine blk_drewN ?_ _ | refine blk_drew ?_ | refine blk_alloc ?_ _)); exact BK156.out) hg (Kd.S_away HO_3.out (fun _ hk => hk.2.2.2))); have n3_ := Aside0.mk (Kd.V_afterv (ok := (fun k_ => (P0_ k_ ∨ w.heap.size ≤ k_) ∧ some k_ ≠ (.slice Ao19 t152.length co19 : Value).ownBlock ∧ some k_ ≠ (.slice Ao27 y168.length co27 : Value).ownBlock ∧ k_ ≠ gb156)) (by (with_reducible repeat (first | apply Kd.V_alloc | apply Kd.V_drewN | apply Kd.V_drew)); exact Kd.V_mono HO162.out (fun _ hk => ⟨⟨hk.1, ⟨hk.2.2.1, ⟨hk.2.2.2.1, hk.2.2.2.2⟩⟩⟩, hk.2.1⟩)) hg hat); have n4_ := Aside0.mk (Kd.V_afterv (ok := (fun k_ => (P0_ k_ ∨ w.heap.size ≤ k_) ∧ some k_ ≠ (.slice Ao19 t152.length co19 : Value).ownBlock ∧ some k_ ≠ (.slice Ao27 y168.length co27 : Value).ownBlock ∧ k_ ≠ gb156)) (by (with_reducible repeat (first | apply Kd.V_alloc | apply Kd.V_drewN | apply Kd.V_drew)); exact Kd.V_mono HO167.out (fun _ hk => ⟨⟨hk.1, ⟨hk.2.2.1, ⟨hk.2.2.2.1, hk.2.2.2.2⟩⟩⟩, hk.2.1⟩)) hg hat); have n5_ := Aside0.mk (Kd.V_afterv (ok := (fun k_ => (P0_ k_ ∨ w.heap.size ≤ k_) ∧ some k_ ≠ (.slice Ao19 t152.length co19 : Value).ownBlock ∧ some k_ ≠ (.slice Ao27 y168.length co27 : Value).ownBlock ∧ k_ ≠ gb156)) (by (with_reducible repeat (first | apply Kd.V_alloc | apply Kd.V_drewN | apply Kd.V_drew)); exact Kd.V_mono HO175.out (fun _ hk => ⟨⟨hk.1, ⟨hk.2.2.1, ⟨hk.2.2.2.1, hk.2.2.2.2⟩⟩⟩, hk.2.1⟩)) hg hat); have n6_ := Aside0.mk (hb); have n7_ := Aside0.mk (ho); clear HO_0; clear HO154; clear BK156; clear HO162; clear HO167; clear HO175; clear HB; clear HO_3; clear HO170; have HO_0 := n0_; have HO154 := n1_; have BK156 := n2_; have HO162 := n3_; have HO167 := n4_; have HO175 := n5_; have HB := n6_; have HO178 := n7_; clear n0_ n1_ n2_ n3_ n4_ n5_ n6_ n7_; clear ho hb hg hat))
            go_roundg k1
            case measure => have := HK1.out; omega
            case rel => exact ⟨(y171), (y176), H', ⟨by have := HK1.out; omega⟩, ⟨by (with_reducible repeat (first | apply Kd.V_alloc | apply Kd.V_drewN | apply Kd.V_drew)); exact Kd.V_mono HO175.out (fun _ hk => ⟨hk.1.1, hk.2⟩)⟩, ⟨by (with_reducible repeat (first | apply Kd.S_alloc | apply Kd.S_drewN | apply Kd.S_drew)); exact Kd.S_mono HO178.out (fun _ hk => hk.1)⟩, ⟨by repeat (first | (with_reducible first | exact HB.out | apply below_alloc | apply pw_below_drewN | apply below_drew1 | refine below_set ?_ GE156.out) | exact HB.out)⟩⟩
           ·
            rw [if_neg c14] at H
            exact absurd H (by simp)
          ·
           rw [if_neg c11] at H
           exact absurd H (by simp)
         ·
          rw [if_neg c10] at H
          exact absurd H (by simp)
        ·
         rw [if_neg c9] at H
         exact absurd H (by simp)
       ·
        rw [if_neg c7] at H
        have c7b0 : (t148 == 4) = false := beq_eq_false_iff_ne.mpr c7
        have c7b1 : (t148 != 4) = true := bne_iff_ne.mpr c7
        by_cases c32 : x3_1.length < 2513169434916
        ·
         rw [if_pos c32] at H
         have LMc32 := Aside0.mk c32
         clear c32
         obtain ⟨y179, hy179⟩ : ∃ y_ : List (S26), y_ = (x3_1 ++ [(⟨t148, t149, t150, t151, t152⟩ : S26)]) := ⟨_, rfl⟩
         replace H : (code_Decode.l0 k1 y158 y179) = some r := by first | (rw [hy179]; with_reducible exact H) | (have H2_ := (Option.bind_some _ _).symm.trans H; rw [hy179]; with_reducible exact H2_) | (have H2_ := (Option.bind_some _ _).symm.trans H; with_reducible exact H2_) | with_reducible exact H | (rw [hy179]; exact H) | exact H
         have Ny179 := Aside0.mk hy179
         clear hy179
         have H' := Aside0.mk H
         clear H
         obtain ⟨Ao33, co33, eo33⟩ := Kd.V_slice HO_0.out
         subst eo33
         go_wp2_with (first | ((with_reducible refine gate_callee (f := 39) rfl ?_); refine goesL_ (some 13) rfl rfl Try.func39 (by kernel_rfl) rfl #[.slice Ao33 x0_1.length co33] rfl (by (try simp only [List.map_toArray, List.map_cons, List.map_nil]); first | done | rfl | (simp only [List.length_drop, List.length_take]; rfl)) ?_; (with_reducible refine (code_decode.calls k1 _ _ x0_1 t148 t149 t150 t151 t152 true _ ?side1 ?side2 A3.out).mono ?_); (case side1 => repeat (first | exact (Kd.V_reads' HO_0.out).2.2 | (with_reducible refine Kd.C_alloc ?_ _) | (with_reducible refine Kd.C_drewN ?_ _) | (with_reducible refine Kd.C_drew ?_))); (case side2 => exact (Kd.V_reads' HO_0.out).2.1); rintro e w34 ⟨v153, rfl, ho0, hb⟩; refine ⟨_, rfl, ?_⟩; have n0_ := Aside0.mk (Kd.V_elder' (by (with_reducible repeat (first | apply Kd.V_alloc | apply Kd.V_drewN | apply Kd.V_drew)); exact HO_0.out) (Kd.R_base ho0) hb); have n1_ := Aside0.mk (Kd.S_elder' (by (with_reducible repeat (first | apply Kd.S_alloc | apply Kd.S_drewN | apply Kd.S_drew)); exact HO_3.out) (Kd.R_base ho0) hb); have n2_ := Aside0.mk (Kd.R_lower (Kd.R_newM (M := fun k_ => (w.heap.size ≤ k_)) ho0 (below_size (by repeat (first | (with_reducible first | exact HB.out | apply below_alloc | apply pw_below_drewN | apply below_drew1) | exact HB.out))) (fun k_ h_ => h_)) (below_size (by repeat (first | (with_reducible first | exact HB.out | apply below_alloc | apply pw_below_drewN | apply below_drew1) | exact HB.out)))); have n3_ := Aside0.mk (below_step (by repeat (first | (with_reducible first | exact HB.out | apply below_alloc | apply pw_below_drewN | apply below_drew1) | exact HB.out)) hb); clear HO_0; clear HO_3; clear HB; have HO_0 := n0_; have HO_3 := n1_; have HO154 := n2_; have HB := n3_; clear n0_ n1_ n2_ n3_; (try clear hb); (try clear hb2); (try clear hk); (try clear hi); (try clear ho0)) | ((with_reducible refine gate_dst (N := 4) rfl ?_); refine box_event ?hg (N := 4) ?hd (cs := #[.int .i64 0, .int .i64 0, .int .i64 0, .int .i64 0, .slice none 0 0]) (t := 26) ?hr ?_; (case hd => rfl); (case hg => rfl); (case hr => first | (go_simp; done) | (go_simp; rfl)); intro gb156 hg w35 hbox hb; have n0_ := Aside0.mk (Kd.V_below (Kd.V_elderB (by (with_reducible repeat (first | apply Kd.V_alloc | apply Kd.V_drewN | apply Kd.V_drew)); exact HO_0.out) gb156 (Nat.le_of_eq hg.symm)) hb); have n1_ := Aside0.mk (Kd.S_below (Kd.S_elderB (by (with_reducible repeat (first | apply Kd.S_alloc | apply Kd.S_drewN | apply Kd.S_drew)); exact HO_3.out) gb156 (Nat.le_of_eq hg.symm)) hb); have n2_ := Aside0.mk (Kd.R_below (by (with_reducible repeat (first | apply Kd.R_alloc | apply Kd.R_drewN | apply Kd.R_drew)); exact HO154.out) hb); have n3_ := Aside0.mk (below_step (by repeat (first | (with_reducible first | exact HB.out | apply below_alloc | apply pw_below_drewN | apply below_drew1) | exact HB.out)) hb); have n4_ := Aside0.mk (hbox); have n5_ := Aside0.mk ((by rw [hg]; exact (below_size (by repeat (first | (with_reducible first | exact HB.out | apply below_alloc | apply pw_below_drewN | apply below_drew1) | exact HB.out))) : w.heap.size ≤ gb156)); have n6_ := Aside0.mk ((by rw [hg]; exact (below_size (by repeat (first | (with_reducible first | exact HB.out | apply below_alloc | apply pw_below_drewN | apply below_drew1) | exact HB.out))) : w.heap.size ≤ gb156)); clear HO_0; clear HO_3; clear HO154; clear HB; have HO_0 := n0_; have HO_3 := n1_; have HO154 := n2_; have HB := n3_; have BK156 := n4_; have GW156 := n5_; have GE156 := n6_; clear n0_ n1_ n2_ n3_ n4_ n5_ n6_; clear hb hbox hg; have hcz36_0 : w35.cell? ⟨gb156, 0, none⟩ = some (.int .i64 0) := (blk_cell BK156.out 0).trans rfl; have hcz36_1 : w35.cell? ⟨gb156, 1, none⟩ = some (.int .i64 0) := (blk_cell BK156.out 1).trans rfl; have hcz36_2 : w35.cell? ⟨gb156, 2, none⟩ = some (.int .i64 0) := (blk_cell BK156.out 2).trans rfl; have hcz36_3 : w35.cell? ⟨gb156, 3, none⟩ = some (.int .i64 0) := (blk_cell BK156.out 3).trans rfl; have hcz36_4 : w35.cell? ⟨gb156, 4, none⟩ = some (.slice none 0 0) := (blk_cell BK156.out 4).trans rfl; have hfz36_0 := blk_frozen BK156.out 0; have hfz36_1 := blk_frozen BK156.out 1; have hfz36_2 := blk_frozen BK156.out 2; have hfz36_3 := blk_frozen BK156.out 3; have hfz36_4 := blk_frozen BK156.out 4; obtain ⟨Ao37, co37, eo37⟩ := Kd.R_slice HO154.out; subst eo37) | ((with_reducible refine gate_store (t := 26) (p := 4) rfl ?_); refine store_event (t := 26) (p := 4) (v := ?vo_w38) (w1 := (((((w35.setCell ⟨gb156, 0, none⟩ (.int .i64 t148)).setCell ⟨gb156, 1, none⟩ (.int .i64 t149)).setCell ⟨gb156, 2, none⟩ (.int .i64 t150)).setCell ⟨gb156, 3, none⟩ (.int .i64 t151)).setCell ⟨gb156, 4, none⟩ (.slice Ao37 t152.length co37))) ?hg ?ho ?hn ?hr ?_; (case ho => rfl); (case hg => rfl); (case hn => rfl); (case hr => first | (go_simp; done) | (go_simp; rfl)); intro w38 hw; have n0_ : Aside0 (Kd.V (Kd.int .u8) 5 w38 w.heap.size (fun k_ => (P0_ k_ ∨ w.heap.size ≤ k_) ∧ some k_ ≠ (u3 : Value).ownBlock ∧ some k_ ≠ (.slice Ao37 t152.length co37 : Value).ownBlock ∧ k_ ≠ gb156) (.slice Ao33 x0_1.length co33) x0_1) := ⟨(by rw [hw]; exact (by (with_reducible repeat (first | apply Kd.V_alloc | apply Kd.V_drewN | apply Kd.V_drew)); exact Kd.V_mono (Kd.V_far (p := ⟨gb156, 4, none⟩) (Kd.V_far (p := ⟨gb156, 3, none⟩) (Kd.V_far (p := ⟨gb156, 2, none⟩) (Kd.V_far (p := ⟨gb156, 1, none⟩) (Kd.V_far (p := ⟨gb156, 0, none⟩) (Kd.V_mono HO_0.out (fun k_ hk => (⟨hk, hk.2⟩ : _ ∧ k_ ≠ gb156))) (fun _ hk => hk.2) (.int .i64 t148)) (fun _ hk => hk.2) (.int .i64 t149)) (fun _ hk => hk.2) (.int .i64 t150)) (fun _ hk => hk.2) (.int .i64 t151)) (fun _ hk => hk.2) (.slice Ao37 t152.length co37)) (fun _ hk => ⟨hk.1.1.1.1, ⟨hk.1.1.1.2, ⟨hk.1.1.2, hk.1.2⟩⟩⟩)))⟩; have n1_ : Aside0 (Kd.S k26 26 w38 w.heap.size (fun k_ => (w.heap.size ≤ k_) ∧ some k_ ≠ (.slice Ao37 t152.length co37 : Value).ownBlock ∧ k_ ≠ gb156) u3 x3_1) := ⟨(by rw [hw]; exact (by (with_reducible repeat (first | apply Kd.S_alloc | apply Kd.S_drewN | apply Kd.S_drew)); exact Kd.S_mono (Kd.S_far (p := ⟨gb156, 4, none⟩) (Kd.S_far (p := ⟨gb156, 3, none⟩) (Kd.S_far (p := ⟨gb156, 2, none⟩) (Kd.S_far (p := ⟨gb156, 1, none⟩) (Kd.S_far (p := ⟨gb156, 0, none⟩) (Kd.S_mono HO_3.out (fun k_ hk => (⟨hk, hk.2⟩ : _ ∧ k_ ≠ gb156))) (fun _ hk => hk.2) (.int .i64 t148)) (fun _ hk => hk.2) (.int .i64 t149)) (fun _ hk => hk.2) (.int .i64 t150)) (fun _ hk => hk.2) (.int .i64 t151)) (fun _ hk => hk.2) (.slice Ao37 t152.length co37)) (fun _ hk => ⟨hk.1.1.1, ⟨hk.1.1.2, hk.1.2⟩⟩)))⟩; have n2_ : Aside0 (Kd.R (Kd.int .u8) 5 w38 w.heap.size (fun k_ => (w.heap.size ≤ k_)) (.slice Ao37 t152.length co37) t152) := ⟨(by rw [hw]; exact (by (with_reducible repeat (first | apply Kd.R_alloc | apply Kd.R_drewN | apply Kd.R_drew)); exact Kd.R_mono (Kd.R_far (p := ⟨gb156, 4, none⟩) (Kd.R_far (p := ⟨gb156, 3, none⟩) (Kd.R_far (p := ⟨gb156, 2, none⟩) (Kd.R_far (p := ⟨gb156, 1, none⟩) (Kd.R_far (p := ⟨gb156, 0, none⟩) (Kd.R_types HO154.out BK156.out (by decide)) (fun _ hk => hk.2) (.int .i64 t148)) (fun _ hk => hk.2) (.int .i64 t149)) (fun _ hk => hk.2) (.int .i64 t150)) (fun _ hk => hk.2) (.int .i64 t151)) (fun _ hk => hk.2) (.slice Ao37 t152.length co37)) (fun _ hk => hk.1.1)))⟩; have n3_ : Aside0 (w38.heap[gb156]? = some (.cells #[.int .i64 t148, .int .i64 t149, .int .i64 t150, .int .i64 t151, .slice Ao37 t152.length co37] 26 (0, 0))) := ⟨(by rw [hw]; exact (by (with_reducible repeat (first | refine blk_drewN ?_ _ | refine blk_drew ?_ | refine blk_alloc ?_ _)); refine blk_put (cs := #[.int .i64 t148, .int .i64 t149, .int .i64 t150, .int .i64 t151, .slice none 0 0]) ?_ 4 _ rfl; (with_reducible repeat (first | refine blk_drewN ?_ _ | refine blk_drew ?_ | refine blk_alloc ?_ _)); refine blk_put (cs := #[.int .i64 t148, .int .i64 t149, .int .i64 t150, .int .i64 0, .slice none 0 0]) ?_ 3 _ rfl; (with_reducible repeat (first | refine blk_drewN ?_ _ | refine blk_drew ?_ | refine blk_alloc ?_ _)); refine blk_put (cs := #[.int .i64 t148, .int .i64 t149, .int .i64 0, .int .i64 0, .slice none 0 0]) ?_ 2 _ rfl; (with_reducible repeat (first | refine blk_drewN ?_ _ | refine blk_drew ?_ | refine blk_alloc ?_ _)); refine blk_put (cs := #[.int .i64 t148, .int .i64 0, .int .i64 0, .int .i64 0, .slice none 0 0]) ?_ 1 _ rfl; (with_reducible repeat (first | refine blk_drewN ?_ _ | refine blk_drew ?_ | refine blk_alloc ?_ _)); refine blk_put (cs := #[.int .i64 0, .int .i64 0, .int .i64 0, .int .i64 0, .slice none 0 0]) ?_ 0 _ rfl; (with_reducible repeat (first | refine blk_drewN ?_ _ | refine blk_drew ?_ | refine blk_alloc ?_ _)); exact BK156.out))⟩; have n4_ : Aside0 (Below w.heap.size w w38) := ⟨(by rw [hw]; exact (by repeat (first | (with_reducible first | exact HB.out | apply below_alloc | apply pw_below_drewN | apply below_drew1 | refine below_set ?_ GE156.out) | exact HB.out)))⟩; clear hw; clear HO_0; clear HO_3; clear HO154; clear BK156; clear HB; have HO_0 := n0_; have HO_3 := n1_; have HO154 := n2_; have BK156 := n3_; have HB := n4_; clear n0_ n1_ n2_ n3_ n4_; have p157 : 0 ≤ (3 : Int) := (by omega); have q157 : 3 < (x0_1.length : Int) := of_decide_eq_true (by first | (with_reducible assumption) | assumption); obtain ⟨ad157, e157, hx157_0⟩ := Kd.at_int (Kd.V_reads' HO_0.out).2.2 3 p157 q157; cases e157; (try simp only [show (3 : Int).toNat = 3 from rfl, Nat.reduceMul, Nat.reduceEqDiff, Go.Addr.add, ↓reduceIte] at hx157_0); have qi157 : (3 < x0_1.length) = True := eq_true (by omega); (try rw [show ((3 : Int)).toNat = 3 from rfl] at hx157_0); replace p157 := eq_true p157; replace q157 := eq_true q157; have q39 : (4 : Int) ≤ ((x0_1.length : Int) : Int) := of_decide_eq_true (by first | (with_reducible assumption) | assumption); obtain ⟨i039, hi039, _, hsz39, _⟩ := info_parts info5; have hroom39 : x0_1.length ≤ co33 := (Kd.V_reads' HO_0.out).2.1; have hC39 : Kd.F (Kd.int .u8) _ _ (some ad157) x0_1.length x0_1 := (Kd.V_at (base := w.heap.size) HO_0.out).2.2; have hcut39 := cut_from (P := Try.prog) 22 5 .i64 Try.underlying22 hi039 1 hsz39 (some ad157) x0_1.length co33 4 (by omega) q39; have hr39 := Kd.F_cut (m := (4 : Int).toNat) (c := co33) hC39 (by omega) hroom39; obtain ⟨A39, hA39⟩ : ∃ A1, A1 = (if co33 = (4 : Int).toNat then (some ad157) else ((some ad157) : Option Addr).map (·.add ((4 : Int).toNat * 1))) := ⟨_, rfl⟩; obtain ⟨c39, hc39⟩ : ∃ c1, c1 = co33 - (4 : Int).toNat := ⟨_, rfl⟩; have hy39 : y158.length = x0_1.length - (4 : Int).toNat := (by rw [Ny158.out, List.length_drop] <;> omega); rw [show (x0_1).drop (4 : Int).toNat = y158 from Ny158.out.symm] at hr39; replace hr39 : Kd.F (Kd.int .u8) _ _ A39 y158.length y158 := (by rw [hA39]; exact hr39); rw [← hy39, ← hA39, ← hc39] at hcut39; have HO162 := Aside0.mk (show Kd.V (Kd.int .u8) 5 _ w.heap.size _ (.slice A39 y158.length c39) y158 from Kd.V_mk (by rw [hy39, hc39]; exact Nat.sub_le_sub_right hroom39 _) hr39); have HC162 := Aside0.mk (show y158.length ≤ c39 from by rw [hy39, hc39]; exact Nat.sub_le_sub_right hroom39 _); clear hr39 hC39 hroom39 hi039 hsz39 hc39; have KY39 := Aside0.mk hy39; have KA39 := Aside0.mk hA39; clear hy39 hA39; replace q39 := eq_true q39; have hcz40_0 : w38.cell? ⟨gb156, 0, none⟩ = some (.int .i64 t148) := (blk_cell BK156.out 0).trans rfl; have hcz40_1 : w38.cell? ⟨gb156, 1, none⟩ = some (.int .i64 t149) := (blk_cell BK156.out 1).trans rfl; have hcz40_2 : w38.cell? ⟨gb156, 2, none⟩ = some (.int .i64 t150) := (blk_cell BK156.out 2).trans rfl; have hcz40_3 : w38.cell? ⟨gb156, 3, none⟩ = some (.int .i64 t151) := (blk_cell BK156.out 3).trans rfl; have hcz40_4 : w38.cell? ⟨gb156, 4, none⟩ = some (.slice Ao37 t152.length co37) := (blk_cell BK156.out 4).trans rfl; have hfz40_0 := blk_frozen BK156.out 0; have hfz40_1 := blk_frozen BK156.out 1; have hfz40_2 := blk_frozen BK156.out 2; have hfz40_3 := blk_frozen BK156.out 3; have hfz40_4 := blk_frozen BK156.out 4) | ((with_reducible refine gate_builtin (b := .append) (xs := #[.tmp 39, .tmp 41]) rfl ?_); at_builtin; refine Kd.S_append k26 (w0 := w) w.heap.size rfl (.tmp 39) (.tmp 41) 23 26 (.agg #[(.int .i64 0), (.int .i64 0), (.int .i64 0), (.int .i64 0), (.slice none 0 0)]) 56 rfl Try.underlying23 info26 rfl (by decide) (by omega) u3 x3_1 (⟨t148, t149, t150, t151, t152⟩ : S26) [.int .i64 t148, .int .i64 t149, .int .i64 t150, .int .i64 t151, .slice Ao37 t152.length co37] (fun k_ => (w.heap.size ≤ k_) ∧ k_ ≠ gb156) (fun k_ => some k_ = (.slice Ao37 t152.length co37 : Value).ownBlock) rfl rfl ?aP (fun k_ hk_ => ((Kd.R_mono (ok' := fun k_ => ((fun k_ => (w.heap.size ≤ k_) ∧ k_ ≠ gb156)) k_ ∧ some k_ ≠ (u3 : Value).ownBlock) (Kd.R_types (Kd.R_apart' (HO154.out) (Kd.S_typed HO_3.out) (by decide)) BK156.out (by decide)) (fun k_ hk => ⟨⟨hk.1.1, hk.2⟩, hk.1.2⟩))).1 k_ hk_.symm) ?aF ?aO ?aB ?aS ?aL ?_; (case aP => exact k26_mkM _ _ _ (⟨t148, t149, t150, t151, t152⟩ : S26) (Kd.R_mono (Kd.R_tight rfl (Kd.R_mono (ok' := fun k_ => ((fun k_ => (w.heap.size ≤ k_) ∧ k_ ≠ gb156)) k_ ∧ some k_ ≠ (u3 : Value).ownBlock) (Kd.R_types (Kd.R_apart' (HO154.out) (Kd.S_typed HO_3.out) (by decide)) BK156.out (by decide)) (fun k_ hk => ⟨⟨hk.1.1, hk.2⟩, hk.1.2⟩))) (fun _ h_ => h_))); (case aB => exact (by repeat (first | (with_reducible first | exact HB.out | apply below_alloc | apply pw_below_drewN | apply below_drew1 | refine below_set ?_ GE156.out) | exact HB.out))); (case aF => exact (fun k_ hk => ⟨(Nat.le_trans (below_size (by repeat (first | (with_reducible first | exact HB.out | apply below_alloc | apply pw_below_drewN | apply below_drew1 | refine below_set ?_ GE156.out) | exact HB.out))) hk), Kd.freshB (g := gb156) (o := .cells #[.int .i64 t148, .int .i64 t149, .int .i64 t150, .int .i64 t151, .slice Ao37 t152.length co37] 26 (0, 0)) (by (with_reducible repeat (first | refine blk_drewN ?_ _ | refine blk_drew ?_ | refine blk_alloc ?_ _)); exact BK156.out) k_ hk⟩)); (case aO => exact (by (with_reducible repeat (first | apply Kd.S_alloc | apply Kd.S_drewN | apply Kd.S_drew)); exact Kd.S_mono HO_3.out (fun k_ hk => ⟨⟨hk.1, hk.2.2⟩, fun e_ => hk.2.1 e_⟩))); (case aS => exact (below_size (by repeat (first | (with_reducible first | exact HB.out | apply below_alloc | apply pw_below_drewN | apply below_drew1 | refine below_set ?_ GE156.out) | exact HB.out)))); (case aL => have := LMc32.out; omega); intro v180 w41 ho hb hg hat; rw [← Ny179.out] at ho; have n0_ := Aside0.mk (Kd.V_afterv (ok := (fun k_ => (P0_ k_ ∨ w.heap.size ≤ k_) ∧ some k_ ≠ (.slice Ao37 t152.length co37 : Value).ownBlock ∧ k_ ≠ gb156)) (by (with_reducible repeat (first | apply Kd.V_alloc | apply Kd.V_drewN | apply Kd.V_drew)); exact Kd.V_mono HO_0.out (fun _ hk => ⟨⟨hk.1, ⟨hk.2.2.1, hk.2.2.2⟩⟩, hk.2.1⟩)) hg hat); have n1_ := Aside0.mk (blk_grown (g := gb156) (o := .cells #[.int .i64 t148, .int .i64 t149, .int .i64 t150, .int .i64 t151, .slice Ao37 t152.length co37] 26 (0, 0)) (by (with_reducible repeat (first | refine blk_drewN ?_ _ | refine blk_drew ?_ | refine blk_alloc ?_ _)); exact BK156.out) hg (Kd.S_away HO_3.out (fun _ hk => hk.2.2))); have n2_ := Aside0.mk (Kd.V_afterv (ok := (fun k_ => (P0_ k_ ∨ w.heap.size ≤ k_) ∧ some k_ ≠ (.slice Ao37 t152.length co37 : Value).ownBlock ∧ k_ ≠ gb156)) (by (with_reducible repeat (first | apply Kd.V_alloc | apply Kd.V_drewN | apply Kd.V_drew)); exact Kd.V_mono HO162.out (fun _ hk => ⟨⟨hk.1, ⟨hk.2.2.1, hk.2.2.2⟩⟩, hk.2.1⟩)) hg hat); have n3_ := Aside0.mk (hb); have n4_ := Aside0.mk (ho); clear HO_0; clear BK156; clear HO162; clear HB; clear HO_3; clear HO154; have HO_0 := n0_; have BK156 := n1_; have HO162 := n2_; have HB := n3_; have HO181 := n4_; clear n0_ n1_ n2_ n3_ n4_; clear ho hb hg hat))
         go_roundg k1
         case measure => have := HK1.out; omega
         case rel => exact ⟨(y158), (y179), H', ⟨by have := HK1.out; omega⟩, ⟨by (with_reducible repeat (first | apply Kd.V_alloc | apply Kd.V_drewN | apply Kd.V_drew)); exact Kd.V_mono HO162.out (fun _ hk => ⟨hk.1.1, hk.2⟩)⟩, ⟨by (with_reducible repeat (first | apply Kd.S_alloc | apply Kd.S_drewN | apply Kd.S_drew)); exact Kd.S_mono HO181.out (fun _ hk => hk.1)⟩, ⟨by repeat (first | (with_reducible first | exact HB.out | apply below_alloc | apply pw_below_drewN | apply below_drew1 | refine below_set ?_ GE156.out) | exact HB.out)⟩⟩
        ·
         rw [if_neg c32] at H
         exact absurd H (by simp)
      ·
       replace c6 := Bool.eq_false_iff.mpr c6
       subst c6
       have H1 : (code_Decode.l0 k1 y158 x3_1) = some r := by rw [if_neg (show ¬ (false = true) by decide)] at H; exact H
       clear H
       have H := H1
       clear H1
       have H' := Aside0.mk H
       clear H
       obtain ⟨Ao42, co42, eo42⟩ := Kd.V_slice HO_0.out
       subst eo42
       go_wp2_with (first | ((with_reducible refine gate_callee (f := 39) rfl ?_); refine goesL_ (some 13) rfl rfl Try.func39 (by kernel_rfl) rfl #[.slice Ao42 x0_1.length co42] rfl (by (try simp only [List.map_toArray, List.map_cons, List.map_nil]); first | done | rfl | (simp only [List.length_drop, List.length_take]; rfl)) ?_; (with_reducible refine (code_decode.calls k1 _ _ x0_1 t148 t149 t150 t151 t152 false _ ?side1 ?side2 A3.out).mono ?_); (case side1 => repeat (first | exact (Kd.V_reads' HO_0.out).2.2 | (with_reducible refine Kd.C_alloc ?_ _) | (with_reducible refine Kd.C_drewN ?_ _) | (with_reducible refine Kd.C_drew ?_))); (case side2 => exact (Kd.V_reads' HO_0.out).2.1); rintro e w43 ⟨v153, rfl, ho0, hb⟩; refine ⟨_, rfl, ?_⟩; have n0_ := Aside0.mk (Kd.V_elder' (by (with_reducible repeat (first | apply Kd.V_alloc | apply Kd.V_drewN | apply Kd.V_drew)); exact HO_0.out) (Kd.R_base ho0) hb); have n1_ := Aside0.mk (Kd.S_elder' (by (with_reducible repeat (first | apply Kd.S_alloc | apply Kd.S_drewN | apply Kd.S_drew)); exact HO_3.out) (Kd.R_base ho0) hb); have n2_ := Aside0.mk (Kd.R_lower (Kd.R_newM (M := fun k_ => (w.heap.size ≤ k_)) ho0 (below_size (by repeat (first | (with_reducible first | exact HB.out | apply below_alloc | apply pw_below_drewN | apply below_drew1) | exact HB.out))) (fun k_ h_ => h_)) (below_size (by repeat (first | (with_reducible first | exact HB.out | apply below_alloc | apply pw_below_drewN | apply below_drew1) | exact HB.out)))); have n3_ := Aside0.mk (below_step (by repeat (first | (with_reducible first | exact HB.out | apply below_alloc | apply pw_below_drewN | apply below_drew1) | exact HB.out)) hb); clear HO_0; clear HO_3; clear HB; have HO_0 := n0_; have HO_3 := n1_; have HO154 := n2_; have HB := n3_; clear n0_ n1_ n2_ n3_; (try clear hb); (try clear hb2); (try clear hk); (try clear hi); (try clear ho0)) | ((with_reducible refine gate_dst (N := 4) rfl ?_); refine box_event ?hg (N := 4) ?hd (cs := #[.int .i64 0, .int .i64 0, .int .i64 0, .int .i64 0, .slice none 0 0]) (t := 26) ?hr ?_; (case hd => rfl); (case hg => rfl); (case hr => first | (go_simp; done) | (go_simp; rfl)); intro gb156 hg w44 hbox hb; have n0_ := Aside0.mk (Kd.V_below (Kd.V_elderB (by (with_reducible repeat (first | apply Kd.V_alloc | apply Kd.V_drewN | apply Kd.V_drew)); exact HO_0.out) gb156 (Nat.le_of_eq hg.symm)) hb); have n1_ := Aside0.mk (Kd.S_below (Kd.S_elderB (by (with_reducible repeat (first | apply Kd.S_alloc | apply Kd.S_drewN | apply Kd.S_drew)); exact HO_3.out) gb156 (Nat.le_of_eq hg.symm)) hb); have n2_ := Aside0.mk (Kd.R_below (by (with_reducible repeat (first | apply Kd.R_alloc | apply Kd.R_drewN | apply Kd.R_drew)); exact HO154.out) hb); have n3_ := Aside0.mk (below_step (by repeat (first | (with_reducible first | exact HB.out | apply below_alloc | apply pw_below_drewN | apply below_drew1) | exact HB.out)) hb); have n4_ := Aside0.mk (hbox); have n5_ := Aside0.mk ((by rw [hg]; exact (below_size (by repeat (first | (with_reducible first | exact HB.out | apply below_alloc | apply pw_below_drewN | apply below_drew1) | exact HB.out))) : w.heap.size ≤ gb156)); have n6_ := Aside0.mk ((by rw [hg]; exact (below_size (by repeat (first | (with_reducible first | exact HB.out | apply below_alloc | apply pw_below_drewN | apply below_drew1) | exact HB.out))) : w.heap.size ≤ gb156)); clear HO_0; clear HO_3; clear HO154; clear HB; have HO_0 := n0_; have HO_3 := n1_; have HO154 := n2_; have HB := n3_; have BK156 := n4_; have GW156 := n5_; have GE156 := n6_; clear n0_ n1_ n2_ n3_ n4_ n5_ n6_; clear hb hbox hg; have hcz45_0 : w44.cell? ⟨gb156, 0, none⟩ = some (.int .i64 0) := (blk_cell BK156.out 0).trans rfl; have hcz45_1 : w44.cell? ⟨gb156, 1, none⟩ = some (.int .i64 0) := (blk_cell BK156.out 1).trans rfl; have hcz45_2 : w44.cell? ⟨gb156, 2, none⟩ = some (.int .i64 0) := (blk_cell BK156.out 2).trans rfl; have hcz45_3 : w44.cell? ⟨gb156, 3, none⟩ = some (.int .i64 0) := (blk_cell BK156.out 3).trans rfl; have hcz45_4 : w44.cell? ⟨gb156, 4, none⟩ = some (.slice none 0 0) := (blk_cell BK156.out 4).trans rfl; have hfz45_0 := blk_frozen BK156.out 0; have hfz45_1 := blk_frozen BK156.out 1; have hfz45_2 := blk_frozen BK156.out 2; have hfz45_3 := blk_frozen BK156.out 3; have hfz45_4 := blk_frozen BK156.out 4; obtain ⟨Ao46, co46, eo46⟩ := Kd.R_slice HO154.out; subst eo46) | ((with_reducible refine gate_store (t := 26) (p := 4) rfl ?_); refine store_event (t := 26) (p := 4) (v := ?vo_w47) (w1 := (((((w44.setCell ⟨gb156, 0, none⟩ (.int .i64 t148)).setCell ⟨gb156, 1, none⟩ (.int .i64 t149)).setCell ⟨gb156, 2, none⟩ (.int .i64 t150)).setCell ⟨gb156, 3, none⟩ (.int .i64 t151)).setCell ⟨gb156, 4, none⟩ (.slice Ao46 t152.length co46))) ?hg ?ho ?hn ?hr ?_; (case ho => rfl); (case hg => rfl); (case hn => rfl); (case hr => first | (go_simp; done) | (go_simp; rfl)); intro w47 hw; have n0_ : Aside0 (Kd.V (Kd.int .u8) 5 w47 w.heap.size (fun k_ => (P0_ k_ ∨ w.heap.size ≤ k_) ∧ some k_ ≠ (u3 : Value).ownBlock ∧ some k_ ≠ (.slice Ao46 t152.length co46 : Value).ownBlock ∧ k_ ≠ gb156) (.slice Ao42 x0_1.length co42) x0_1) := ⟨(by rw [hw]; exact (by (with_reducible repeat (first | apply Kd.V_alloc | apply Kd.V_drewN | apply Kd.V_drew)); exact Kd.V_mono (Kd.V_far (p := ⟨gb156, 4, none⟩) (Kd.V_far (p := ⟨gb156, 3, none⟩) (Kd.V_far (p := ⟨gb156, 2, none⟩) (Kd.V_far (p := ⟨gb156, 1, none⟩) (Kd.V_far (p := ⟨gb156, 0, none⟩) (Kd.V_mono HO_0.out (fun k_ hk => (⟨hk, hk.2⟩ : _ ∧ k_ ≠ gb156))) (fun _ hk => hk.2) (.int .i64 t148)) (fun _ hk => hk.2) (.int .i64 t149)) (fun _ hk => hk.2) (.int .i64 t150)) (fun _ hk => hk.2) (.int .i64 t151)) (fun _ hk => hk.2) (.slice Ao46 t152.length co46)) (fun _ hk => ⟨hk.1.1.1.1, ⟨hk.1.1.1.2, ⟨hk.1.1.2, hk.1.2⟩⟩⟩)))⟩; have n1_ : Aside0 (Kd.S k26 26 w47 w.heap.size (fun k_ => (w.heap.size ≤ k_) ∧ some k_ ≠ (.slice Ao46 t152.length co46 : Value).ownBlock ∧ k_ ≠ gb156) u3 x3_1) := ⟨(by rw [hw]; exact (by (with_reducible repeat (first | apply Kd.S_alloc | apply Kd.S_drewN | apply Kd.S_drew)); exact Kd.S_mono (Kd.S_far (p := ⟨gb156, 4, none⟩) (Kd.S_far (p := ⟨gb156, 3, none⟩) (Kd.S_far (p := ⟨gb156, 2, none⟩) (Kd.S_far (p := ⟨gb156, 1, none⟩) (Kd.S_far (p := ⟨gb156, 0, none⟩) (Kd.S_mono HO_3.out (fun k_ hk => (⟨hk, hk.2⟩ : _ ∧ k_ ≠ gb156))) (fun _ hk => hk.2) (.int .i64 t148)) (fun _ hk => hk.2) (.int .i64 t149)) (fun _ hk => hk.2) (.int .i64 t150)) (fun _ hk => hk.2) (.int .i64 t151)) (fun _ hk => hk.2) (.slice Ao46 t152.length co46)) (fun _ hk => ⟨hk.1.1.1, ⟨hk.1.1.2, hk.1.2⟩⟩)))⟩; have n2_ : Aside0 (Kd.R (Kd.int .u8) 5 w47 w.heap.size (fun k_ => (w.heap.size ≤ k_)) (.slice Ao46 t152.length co46) t152) := ⟨(by rw [hw]; exact (by (with_reducible repeat (first | apply Kd.R_alloc | apply Kd.R_drewN | apply Kd.R_drew)); exact Kd.R_mono (Kd.R_far (p := ⟨gb156, 4, none⟩) (Kd.R_far (p := ⟨gb156, 3, none⟩) (Kd.R_far (p := ⟨gb156, 2, none⟩) (Kd.R_far (p := ⟨gb156, 1, none⟩) (Kd.R_far (p := ⟨gb156, 0, none⟩) (Kd.R_types HO154.out BK156.out (by decide)) (fun _ hk => hk.2) (.int .i64 t148)) (fun _ hk => hk.2) (.int .i64 t149)) (fun _ hk => hk.2) (.int .i64 t150)) (fun _ hk => hk.2) (.int .i64 t151)) (fun _ hk => hk.2) (.slice Ao46 t152.length co46)) (fun _ hk => hk.1.1)))⟩; have n3_ : Aside0 (w47.heap[gb156]? = some (.cells #[.int .i64 t148, .int .i64 t149, .int .i64 t150, .int .i64 t151, .slice Ao46 t152.length co46] 26 (0, 0))) := ⟨(by rw [hw]; exact (by (with_reducible repeat (first | refine blk_drewN ?_ _ | refine blk_drew ?_ | refine blk_alloc ?_ _)); refine blk_put (cs := #[.int .i64 t148, .int .i64 t149, .int .i64 t150, .int .i64 t151, .slice none 0 0]) ?_ 4 _ rfl; (with_reducible repeat (first | refine blk_drewN ?_ _ | refine blk_drew ?_ | refine blk_alloc ?_ _)); refine blk_put (cs := #[.int .i64 t148, .int .i64 t149, .int .i64 t150, .int .i64 0, .slice none 0 0]) ?_ 3 _ rfl; (with_reducible repeat (first | refine blk_drewN ?_ _ | refine blk_drew ?_ | refine blk_alloc ?_ _)); refine blk_put (cs := #[.int .i64 t148, .int .i64 t149, .int .i64 0, .int .i64 0, .slice none 0 0]) ?_ 2 _ rfl; (with_reducible repeat (first | refine blk_drewN ?_ _ | refine blk_drew ?_ | refine blk_alloc ?_ _)); refine blk_put (cs := #[.int .i64 t148, .int .i64 0, .int .i64 0, .int .i64 0, .slice none 0 0]) ?_ 1 _ rfl; (with_reducible repeat (first | refine blk_drewN ?_ _ | refine blk_drew ?_ | refine blk_alloc ?_ _)); refine blk_put (cs := #[.int .i64 0, .int .i64 0, .int .i64 0, .int .i64 0, .slice none 0 0]) ?_ 0 _ rfl; (with_reducible repeat (first | refine blk_drewN ?_ _ | refine blk_drew ?_ | refine blk_alloc ?_ _)); exact BK156.out))⟩; have n4_ : Aside0 (Below w.heap.size w w47) := ⟨(by rw [hw]; exact (by repeat (first | (with_reducible first | exact HB.out | apply below_alloc | apply pw_below_drewN | apply below_drew1 | refine below_set ?_ GE156.out) | exact HB.out)))⟩; clear hw; clear HO_0; clear HO_3; clear HO154; clear BK156; clear HB; have HO_0 := n0_; have HO_3 := n1_; have HO154 := n2_; have BK156 := n3_; have HB := n4_; clear n0_ n1_ n2_ n3_ n4_; have p157 : 0 ≤ (3 : Int) := (by omega); have q157 : 3 < (x0_1.length : Int) := of_decide_eq_true (by first | (with_reducible assumption) | assumption); obtain ⟨ad157, e157, hx157_0⟩ := Kd.at_int (Kd.V_reads' HO_0.out).2.2 3 p157 q157; cases e157; (try simp only [show (3 : Int).toNat = 3 from rfl, Nat.reduceMul, Nat.reduceEqDiff, Go.Addr.add, ↓reduceIte] at hx157_0); have qi157 : (3 < x0_1.length) = True := eq_true (by omega); (try rw [show ((3 : Int)).toNat = 3 from rfl] at hx157_0); replace p157 := eq_true p157; replace q157 := eq_true q157; have q48 : (4 : Int) ≤ ((x0_1.length : Int) : Int) := of_decide_eq_true (by first | (with_reducible assumption) | assumption); obtain ⟨i048, hi048, _, hsz48, _⟩ := info_parts info5; have hroom48 : x0_1.length ≤ co42 := (Kd.V_reads' HO_0.out).2.1; have hC48 : Kd.F (Kd.int .u8) _ _ (some ad157) x0_1.length x0_1 := (Kd.V_at (base := w.heap.size) HO_0.out).2.2; have hcut48 := cut_from (P := Try.prog) 22 5 .i64 Try.underlying22 hi048 1 hsz48 (some ad157) x0_1.length co42 4 (by omega) q48; have hr48 := Kd.F_cut (m := (4 : Int).toNat) (c := co42) hC48 (by omega) hroom48; obtain ⟨A48, hA48⟩ : ∃ A1, A1 = (if co42 = (4 : Int).toNat then (some ad157) else ((some ad157) : Option Addr).map (·.add ((4 : Int).toNat * 1))) := ⟨_, rfl⟩; obtain ⟨c48, hc48⟩ : ∃ c1, c1 = co42 - (4 : Int).toNat := ⟨_, rfl⟩; have hy48 : y158.length = x0_1.length - (4 : Int).toNat := (by rw [Ny158.out, List.length_drop] <;> omega); rw [show (x0_1).drop (4 : Int).toNat = y158 from Ny158.out.symm] at hr48; replace hr48 : Kd.F (Kd.int .u8) _ _ A48 y158.length y158 := (by rw [hA48]; exact hr48); rw [← hy48, ← hA48, ← hc48] at hcut48; have HO162 := Aside0.mk (show Kd.V (Kd.int .u8) 5 _ w.heap.size _ (.slice A48 y158.length c48) y158 from Kd.V_mk (by rw [hy48, hc48]; exact Nat.sub_le_sub_right hroom48 _) hr48); have HC162 := Aside0.mk (show y158.length ≤ c48 from by rw [hy48, hc48]; exact Nat.sub_le_sub_right hroom48 _); clear hr48 hC48 hroom48 hi048 hsz48 hc48; have KY48 := Aside0.mk hy48; have KA48 := Aside0.mk hA48; clear hy48 hA48; replace q48 := eq_true q48))
       go_roundg k1
       case measure => have := HK1.out; omega
       case rel => exact ⟨(y158), (x3_1), H', ⟨by have := HK1.out; omega⟩, ⟨by (with_reducible repeat (first | apply Kd.V_alloc | apply Kd.V_drewN | apply Kd.V_drew)); exact Kd.V_mono HO162.out (fun _ hk => ⟨hk.1, hk.2.1⟩)⟩, ⟨by (with_reducible repeat (first | apply Kd.S_alloc | apply Kd.S_drewN | apply Kd.S_drew)); exact Kd.S_mono HO_3.out (fun _ hk => hk.1)⟩, ⟨by repeat (first | (with_reducible first | exact HB.out | apply below_alloc | apply pw_below_drewN | apply below_drew1 | refine below_set ?_ GE156.out) | exact HB.out)⟩⟩
     ·
      rw [if_neg c5] at H
      exact absurd H (by simp)
    ·
     rw [if_neg c4] at H
     exact absurd H (by simp)
   ·
    rw [if_neg c2] at H
    have c2b0 : decide (4 ≤ (x0_1.length : Int)) = false := decide_eq_false c2
    have c2b1 : decide (4 ≤ x0_1.length) = false := decide_eq_false (by omega)
    clear c2
    obtain rfl := Option.some.inj H
    obtain ⟨Ao49, co49, eo49⟩ := Kd.V_slice HO_0.out
    subst eo49
    go_wp2
    go_ret
    exact ⟨_, by first | rfl | (simp [errW_none, errW_some] <;> rfl) | (simp [*, errW_none, errW_some] <;> rfl), by (with_reducible repeat (first | apply Kd.S_alloc | apply Kd.S_drewN | apply Kd.S_drew)); exact HO_3.out, by repeat (first | (with_reducible first | exact HB.out | apply below_alloc | apply pw_below_drewN | apply below_drew1) | exact HB.out)⟩

end Go.Proofs.Ytfgggmojdefidaa.XCodeEach
