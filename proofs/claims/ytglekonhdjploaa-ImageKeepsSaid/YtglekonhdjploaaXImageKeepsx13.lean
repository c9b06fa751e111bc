-- Laid by this session's own printer (wip/xprint.py): each Go function that the law reaches as a plain Lean function, and that the call comes to it.
import Derived.Test.YtglekonhdjploaaXImageKeepsx0
import Derived.Test.YtglekonhdjploaaXImageKeepsx1
import Derived.Test.YtglekonhdjploaaXImageKeepsx2
import Derived.Test.YtglekonhdjploaaXImageKeepsx6
import Derived.Test.YtglekonhdjploaaXImageKeepsx9
import Derived.Test.YtglekonhdjploaaXImageKeepsx10
import Derived.Test.YtglekonhdjploaaXImageKeepsx11
import Derived.Test.YtglekonhdjploaaXImageKeepsx12
namespace Go.Proofs.Ytglekonhdjploaa.XImageKeeps
open Go.RowKit Go.Proofs.YtglekonhdjploaaW.PrintWords Go.Proofs.YtglekonhdjploaaW.PrintLast Go.Proofs.YtglekonhdjploaaW.PrintMore
attribute [local go_sem] max2_int min2_int max_two min_two max_three min_three max_four min_four   -- for this text's walks alone
set_option linter.unusedVariables false
set_option linter.unusedSimpArgs false

set_option maxHeartbeats 8000000 in
set_option maxRecDepth 100000 in
theorem darninglaw19_ImageKeeps.calls (k : Nat) (a0 : Int) (A1 : Option Addr) (c1 : Nat) (l1 : List Int) (A2 : Option Addr) (c2 : Nat) (l2 : List (S75)) (w : World) (hr1 : Kd.C (Kd.int .i64) w A1 l1.length l1) (hc1 : l1.length ≤ c1) (hr2 : Kd.C k75 w A2 l2.length l2) (hc2 : l2.length ≤ c2) (h : darninglaw19_ImageKeeps.f k a0 l1 l2 = some true) :
  Calls Try.prog 14 #[.int .i64 a0, .slice A1 l1.length c1, .slice A2 l2.length c2] w fun e w' => e = .returned (.bool true) ∧ Below w.heap.size w w' := by
 have hu75 := Try.underlying75
 have hu35 := Try.underlying35
 have hu77 := Try.underlying77
 have hf77 := field77
 have HR1 := Aside0.mk hr1
 have HC1 := Aside0.mk hc1
 clear hr1 hc1
 have HR2 := Aside0.mk hr2
 have HC2 := Aside0.mk hc2
 clear hr2 hc2
 have HB := Aside0.mk (Below.refl w.heap.size w)
 have H : ((darninglaw19_Heavy.f k l2).bind fun t304 => (if t304 > 0 then (darninglaw19_ImageKeeps.j0 k a0 l1 l2 true) else (darninglaw19_ImageKeeps.j0 k a0 l1 l2 (decide ((l1.length : Int) > 60))))) = some true := h
 clear h
 have HC4 := Aside0.mk H
 clear H
 go_enter Try.func14, Try.ntmps14
 go_upto_region 1 with (fail)
 go_cut [44] (fun v44 wc => ∃ (kq : Nat) (x44_3 : Bool), v44 = .bool x44_3 ∧ Aside0 (darninglaw19_ImageKeeps.j0 kq a0 l1 l2 x44_3 = some true) ∧ Aside0 (kq ≤ k) ∧ Aside0 (Below w.heap.size w wc))
 case first =>
  as_aux_lemma =>
   have H := HC4.out
   clear HC4
   replace H := Option.bind_eq_some_iff.mp H
   obtain ⟨t304, A50, H⟩ := H
   replace H : (if t304 > 0 then (darninglaw19_ImageKeeps.j0 k a0 l1 l2 true) else (darninglaw19_ImageKeeps.j0 k a0 l1 l2 (decide ((l1.length : Int) > 60)))) = some true := H
   have A5 := Aside0.mk A50
   clear A50
   by_cases c6 : t304 > 0
   ·
    rw [if_pos c6] at H
    have c6b0 : decide (0 < t304) = true := decide_eq_true c6
    clear c6
    (first | rw [c6b0] | (simp only [i64_w, i32_w]; rw [c6b0]) | skip)
    as_aux_lemma =>
     have H' := Aside0.mk H
     clear H
     go_wp2_with (first | ((with_reducible refine gate_callee (f := 55) rfl ?_); refine goesL_ (some 38) rfl rfl Try.func55 (by kernel_rfl) rfl #[.slice A2 l2.length c2] rfl (by (try simp only [List.map_toArray, List.map_cons, List.map_nil]); first | done | rfl | (simp only [List.length_drop, List.length_take]; rfl)) ?_; (with_reducible refine (darninglaw19_Heavy.calls k _ _ l2 t304 _ ?side1 ?side2 A5.out).mono ?_); (case side1 => repeat (first | exact (Kd.C_below HR2.out HB.out) | (with_reducible refine Kd.C_alloc ?_ _) | (with_reducible refine Kd.C_drewN ?_ _) | (with_reducible refine Kd.C_drew ?_))); (case side2 => exact HC2.out); rintro e w7 ⟨rfl, hb⟩; refine ⟨_, rfl, ?_⟩; have n0_ := Aside0.mk (below_step (by repeat (first | (with_reducible first | exact HB.out | apply below_alloc | apply pw_below_drewN | apply below_drew1) | exact HB.out)) hb); clear HB; have HB := n0_; clear n0_; (try clear hb); (try clear hb2); (try clear hk); (try clear hi)))
     go_meet
     case rel => exact ⟨_, (true), (by first | rfl | (simp; done) | (simp [*]; done)), H', ⟨by first | omega | exact Nat.le_refl _⟩, ⟨by repeat (first | (with_reducible first | exact HB.out | apply below_alloc | apply pw_below_drewN | apply below_drew1) | exact HB.out)⟩⟩
   rw [if_neg c6] at H
   have c6b0 : decide (0 < t304) = false := decide_eq_false c6
   clear c6
   (first | rw [c6b0] | (simp only [i64_w, i32_w]; rw [c6b0]) | skip)
   as_aux_lemma =>
    have H' := Aside0.mk H
    clear H
    go_wp2_with (first | ((with_reducible refine gate_callee (f := 55) rfl ?_); refine goesL_ (some 38) rfl rfl Try.func55 (by kernel_rfl) rfl #[.slice A2 l2.length c2] rfl (by (try simp only [List.map_toArray, List.map_cons, List.map_nil]); first | done | rfl | (simp only [List.length_drop, List.length_take]; rfl)) ?_; (with_reducible refine (darninglaw19_Heavy.calls k _ _ l2 t304 _ ?side1 ?side2 A5.out).mono ?_); (case side1 => repeat (first | exact (Kd.C_below HR2.out HB.out) | (with_reducible refine Kd.C_alloc ?_ _) | (with_reducible refine Kd.C_drewN ?_ _) | (with_reducible refine Kd.C_drew ?_))); (case side2 => exact HC2.out); rintro e w8 ⟨rfl, hb⟩; refine ⟨_, rfl, ?_⟩; have n0_ := Aside0.mk (below_step (by repeat (first | (with_reducible first | exact HB.out | apply below_alloc | apply pw_below_drewN | apply below_drew1) | exact HB.out)) hb); clear HB; have HB := n0_; clear n0_; (try clear hb); (try clear hb2); (try clear hk); (try clear hi)))
    go_meet
    case rel => exact ⟨_, (decide ((l1.length : Int) > 60)), (by first | rfl | (simp; done) | (simp [*]; done)), H', ⟨by first | omega | exact Nat.le_refl _⟩, ⟨by repeat (first | (with_reducible first | exact HB.out | apply below_alloc | apply pw_below_drewN | apply below_drew1) | exact HB.out)⟩⟩
 as_aux_lemma =>
  clear HC4
  try clear c1
  try clear c2
  try clear p2
  try clear c5
  try clear c6
  try clear c6b0
  obtain ⟨kq, x44_3, rfl, HA, HJ3, HB⟩ := hcut
  cases kq with
  | zero => exact absurd HA.out (by simp [darninglaw19_ImageKeeps.j0])
  | succ kj3 =>
   have H := HA.out
   clear HA
   simp only [darninglaw19_ImageKeeps.j0] at H
   by_cases c9 : x44_3 = true
   ·
    subst c9
    have H1 : ((darninglaw19_awake.f kj3).bind fun t305 => (some t305)) = some true := by rw [if_pos rfl] at H; exact H
    clear H
    have H := H1
    clear H1
    replace H := Option.bind_eq_some_iff.mp H
    obtain ⟨t305, A100, H⟩ := H
    replace H : (some t305) = some true := H
    have A10 := Aside0.mk A100
    clear A100
    as_aux_lemma =>
     obtain rfl : t305 = true := Option.some.inj H
     go_wp2_with (first | ((with_reducible refine gate_callee (f := 40) rfl ?_); refine goesL_ (some 45) rfl rfl Try.func40 (by kernel_rfl) rfl #[] rfl (by (try simp only [List.map_toArray, List.map_cons, List.map_nil]); first | done | rfl | (simp only [List.length_drop, List.length_take]; rfl)) ?_; (with_reducible refine (darninglaw19_awake.calls kj3   _ A10.out).mono ?_); rintro e w11 ⟨rfl, hb⟩; refine ⟨_, rfl, ?_⟩; have n0_ := Aside0.mk (below_step (by repeat (first | (with_reducible first | exact HB.out | apply below_alloc | apply pw_below_drewN | apply below_drew1) | exact HB.out)) hb); clear HB; have HB := n0_; clear n0_; (try clear hb); (try clear hb2); (try clear hk); (try clear hi)))
     go_ret
     exact ⟨by first | rfl | (rw [HRA_.out]) | (simp only [HRA_.out]; done) | (simp only [← HRA_.out]; done) | (have HR_ := HRA_.out; simp_all) | (simp [errW_none, errW_some] <;> rfl) | (simp [*, errW_none, errW_some] <;> rfl), by repeat (first | (with_reducible first | exact HB.out | apply below_alloc | apply pw_below_drewN | apply below_drew1) | exact HB.out)⟩
   replace c9 := Bool.eq_false_iff.mpr c9
   subst c9
   have H1 : ((chain_First.f (wrap64 ((wrap64 (1 + (wrap64 (Int.tmod (IntKind.u64.wrap (a0)) 64)))) * 8))).bind fun t306 => (darninglaw19_ImageKeeps.l0 kj3 (wrap64 (1 + (wrap64 (Int.tmod (IntKind.u64.wrap (a0)) 64)))) l1 t306 ([] : List (S122)) l2 (l2.length : Int) 0)) = some true := by rw [if_neg (show ¬ (false = true) by decide)] at H; exact H
   clear H
   have H := H1
   clear H1
   replace H := Option.bind_eq_some_iff.mp H
   obtain ⟨t306, A120, H⟩ := H
   replace H : (darninglaw19_ImageKeeps.l0 kj3 (wrap64 (1 + (wrap64 (Int.tmod (IntKind.u64.wrap (a0)) 64)))) l1 t306 ([] : List (S122)) l2 (l2.length : Int) 0) = some true := H
   have A12 := Aside0.mk A120
   clear A120
   have H' := Aside0.mk H
   clear H
   have hmm := @run_makeMap Try.prog
   go_wp2_with (first | ((with_reducible refine gate_callee (f := 38) rfl ?_); refine goesL_ (some 53) rfl rfl Try.func38 (by kernel_rfl) rfl #[.int .i64 (wrap64 ((wrap64 (1 + (wrap64 (Int.tmod (IntKind.u64.wrap (a0)) 64)))) * 8))] rfl (by (try simp only [List.map_toArray, List.map_cons, List.map_nil]); first | done | rfl | (simp only [List.length_drop, List.length_take]; rfl)) ?_; (with_reducible refine (chain_First.calls (wrap64 ((wrap64 (1 + (wrap64 (Int.tmod (IntKind.u64.wrap (a0)) 64)))) * 8)) t306 _ A12.out).mono ?_); rintro e w13 ⟨v307, rfl, ho0, hb⟩; refine ⟨_, rfl, ?_⟩; have n0_ := Aside0.mk (Kd.R_lower ho0 (below_size (by repeat (first | (with_reducible first | exact HB.out | apply below_alloc | apply pw_below_drewN | apply below_drew1) | exact HB.out)))); have n1_ := Aside0.mk (below_step (by repeat (first | (with_reducible first | exact HB.out | apply below_alloc | apply pw_below_drewN | apply below_drew1) | exact HB.out)) hb); clear HB; have HO308 := n0_; have HB := n1_; clear n0_ n1_; (try clear hb); (try clear hb2); (try clear hk); (try clear hi); (try clear ho0)))
   clear hmm
   generalize hmbH : w13.heap.size = mbH
   go_loopg [7, 57] kj3 (fun kq v7 v57 w' => ∃ (x7_2 : List Int) (x8_2 : List (S122)) (x57_2 : Int), v57 = .int .i64 x57_2 ∧ Aside0 (darninglaw19_ImageKeeps.l0 kq (wrap64 (1 + (wrap64 (Int.tmod (IntKind.u64.wrap (a0)) 64)))) l1 x7_2 x8_2 l2 (l2.length : Int) x57_2 = some true) ∧ Aside0 (kq ≤ kj3) ∧ Aside0 (Kd.R (Kd.int .u64) 28 w' w.heap.size (fun _ => True) v7 x7_2) ∧ Aside0 (MR w' w.heap.size (fun _ => True) (.map (some mbH)) x8_2) ∧ Aside0 (Below w.heap.size w w'))
   case atStart => exact ⟨(t306), (([] : List (S122))), (0), (by first | rfl | (simp; done) | (simp [*]; done)), H', ⟨Nat.le_refl _⟩, ⟨by (with_reducible repeat (first | apply Kd.R_alloc | apply Kd.R_drewN | apply Kd.R_drew)); exact HO308.out⟩, ⟨by rw [← hmbH]; exact MR_made _ (below_size HB.out)⟩, ⟨by repeat (first | (with_reducible first | exact HB.out | apply below_alloc | apply pw_below_drewN | apply below_drew1) | exact HB.out)⟩⟩
   case round =>
    as_aux_lemma =>
     clear H'
     try clear c1
     try clear c2
     try clear p2
     try clear c3
     try clear c4
     try clear c5
     try clear c6
     try clear c6b0
     try clear p6
     try clear c9
     try clear p2
     obtain ⟨x7_2, x8_2, x57_2, rfl, HA, HK2, HO_7, HO_8, HB⟩ := hrel
     cases gk with
     | zero => exact absurd HA.out (by simp [darninglaw19_ImageKeeps.l0])
     | succ k2 =>
      have H := HA.out
      clear HA
      simp only [darninglaw19_ImageKeeps.l0] at H
      by_cases c14 : x57_2 < (l2.length : Int)
      rotate_left
      ·
       rw [if_neg c14] at H
       have c14b0 : decide (x57_2 < (l2.length : Int)) = false := decide_eq_false c14
       clear c14
       replace H := Option.bind_eq_some_iff.mp H
       obtain ⟨t371, A1500, H⟩ := H
       replace H : (some t371) = some true := H
       have A150 := Aside0.mk A1500
       clear A1500
       as_aux_lemma =>
        obtain rfl : t371 = true := Option.some.inj H
        go_wp2_with (first | ((with_reducible refine gate_callee (f := 40) rfl ?_); refine goesL_ (some 319) rfl rfl Try.func40 (by kernel_rfl) rfl #[] rfl (by (try simp only [List.map_toArray, List.map_cons, List.map_nil]); first | done | rfl | (simp only [List.length_drop, List.length_take]; rfl)) ?_; (with_reducible refine (darninglaw19_awake.calls k2   _ A150.out).mono ?_); rintro e w151 ⟨rfl, hb⟩; refine ⟨_, rfl, ?_⟩; have n0_ := Aside0.mk (Kd.R_below (by (with_reducible repeat (first | apply Kd.R_alloc | apply Kd.R_drewN | apply Kd.R_drew)); exact HO_7.out) hb); have n1_ := Aside0.mk (MR_below (by (with_reducible repeat (first | apply MR_alloc | apply MR_drewN | apply MR_drew)); exact HO_8.out) hb); have n2_ := Aside0.mk (below_step (by repeat (first | (with_reducible first | exact HB.out | apply below_alloc | apply pw_below_drewN | apply below_drew1) | exact HB.out)) hb); clear HO_7; clear HO_8; clear HB; have HO_7 := n0_; have HO_8 := n1_; have HB := n2_; clear n0_ n1_ n2_; (try clear hb); (try clear hb2); (try clear hk); (try clear hi)))
        go_ret
        exact ⟨by first | rfl | (rw [HRA_.out]) | (simp only [HRA_.out]; done) | (simp only [← HRA_.out]; done) | (have HR_ := HRA_.out; simp_all) | (simp [errW_none, errW_some] <;> rfl) | (simp [*, errW_none, errW_some] <;> rfl), by repeat (first | (with_reducible first | exact HB.out | apply below_alloc | apply pw_below_drewN | apply below_drew1) | exact HB.out)⟩
      rw [if_pos c14] at H
      have c14b0 : decide (x57_2 < (l2.length : Int)) = true := decide_eq_true c14
      clear c14
      by_cases c15 : 0 ≤ x57_2
      rotate_left
      ·
       rw [if_neg c15] at H
       exact absurd H (by simp)
      rw [if_pos c15] at H
      have c15b0 : decide (0 ≤ x57_2) = true := decide_eq_true c15
      clear c15
      by_cases c16 : x57_2 < (l2.length : Int)
      rotate_left
      ·
       rw [if_neg c16] at H
       exact absurd H (by simp)
      rw [if_pos c16] at H
      have c16b0 : decide (x57_2 < (l2.length : Int)) = true := decide_eq_true c16
      clear c16
      replace H := Option.bind_eq_some_iff.mp H
      obtain ⟨⟨t311, t312⟩, A170, H⟩ := H
      replace H : (if t312 = true then (if (x7_2.length : Int) = (wrap64 ((wrap64 (1 + (wrap64 (Int.tmod (IntKind.u64.wrap (a0)) 64)))) * 8)) then (darninglaw19_ImageKeeps.l1 k2 (wrap64 (1 + (wrap64 (Int.tmod (IntKind.u64.wrap (a0)) 64)))) l1 x7_2 x8_2 t311 ([] : List Int) l2 (l2.length : Int) x57_2 t311 (t311.length : Int) 0 ((rd_T75 l2 x57_2).f0) ((rd_T75 l2 x57_2).f1) ((rd_T75 l2 x57_2).f2) ((rd_T75 l2 x57_2).f3) ((rd_T75 l2 x57_2).f4)) else (some false)) else (some false)) = some true := H
      have A17 := Aside0.mk A170
      clear A170
      by_cases c18 : t312 = true
      rotate_left
      ·
       replace c18 := Bool.eq_false_iff.mpr c18
       subst c18
       have H1 : (some false) = some true := by rw [if_neg (show ¬ (false = true) by decide)] at H; exact H
       clear H
       have H := H1
       clear H1
       exact absurd H (by simp)
      subst c18
      have H1 : (if (x7_2.length : Int) = (wrap64 ((wrap64 (1 + (wrap64 (Int.tmod (IntKind.u64.wrap (a0)) 64)))) * 8)) then (darninglaw19_ImageKeeps.l1 k2 (wrap64 (1 + (wrap64 (Int.tmod (IntKind.u64.wrap (a0)) 64)))) l1 x7_2 x8_2 t311 ([] : List Int) l2 (l2.length : Int) x57_2 t311 (t311.length : Int) 0 ((rd_T75 l2 x57_2).f0) ((rd_T75 l2 x57_2).f1) ((rd_T75 l2 x57_2).f2) ((rd_T75 l2 x57_2).f3) ((rd_T75 l2 x57_2).f4)) else (some false)) = some true := by rw [if_pos rfl] at H; exact H
      clear H
      have H := H1
      clear H1
      by_cases c19 : (x7_2.length : Int) = (wrap64 ((wrap64 (1 + (wrap64 (Int.tmod (IntKind.u64.wrap (a0)) 64)))) * 8))
      rotate_left
      ·
       rw [if_neg c19] at H
       have c19b0 : ((x7_2.length : Int) == (wrap64 ((wrap64 (1 + (wrap64 (Int.tmod (IntKind.u64.wrap (a0)) 64)))) * 8))) = false := beq_eq_false_iff_ne.mpr c19
       have c19b1 : ((x7_2.length : Int) != (wrap64 ((wrap64 (1 + (wrap64 (Int.tmod (IntKind.u64.wrap (a0)) 64)))) * 8))) = true := bne_iff_ne.mpr c19
       exact absurd H (by simp)
      rw [if_pos c19] at H
      have c19b0 : ((x7_2.length : Int) == (wrap64 ((wrap64 (1 + (wrap64 (Int.tmod (IntKind.u64.wrap (a0)) 64)))) * 8))) = true := beq_iff_eq.mpr c19
      have c19b1 : ((x7_2.length : Int) != (wrap64 ((wrap64 (1 + (wrap64 (Int.tmod (IntKind.u64.wrap (a0)) 64)))) * 8))) = false := bne_eq_false_iff_eq.mpr c19
      clear c19
      have H' := Aside0.mk H
      clear H
      have p309 : 0 ≤ (x57_2 : Int) := of_decide_eq_true (by first | (with_reducible assumption) | assumption)
      have q309 : x57_2 < (l2.length : Int) := of_decide_eq_true (by first | (with_reducible assumption) | assumption)
      obtain ⟨ad309, A309_4, c309_4, e309, hx309_0, hx309_1, hx309_2, hx309_3, hx309_4, hl309_4, hi309_4⟩ := at_T75 HR2.out x57_2 p309 q309
      cases e309
      replace hx309_0 := (HB.out.cell (World.block_lt_of_cell? w _ hx309_0)).trans hx309_0
      replace hx309_1 := (HB.out.cell (World.block_lt_of_cell? w _ hx309_1)).trans hx309_1
      replace hx309_2 := (HB.out.cell (World.block_lt_of_cell? w _ hx309_2)).trans hx309_2
      replace hx309_3 := (HB.out.cell (World.block_lt_of_cell? w _ hx309_3)).trans hx309_3
      replace hx309_4 := (HB.out.cell (World.block_lt_of_cell? w _ hx309_4)).trans hx309_4
      have HR309_4 := Aside0.mk hi309_4
      have HC309_4 := Aside0.mk hl309_4
      clear hi309_4 hl309_4
      replace p309 := eq_true p309
      replace q309 := eq_true q309
      go_wp2_with (first | ((with_reducible refine gate_dst (N := 10) rfl ?_); (try (refine gate_guard (by rfl) ?_; dsimp only)); refine box_event ?hg (N := 10) ?hd (cs := #[.int .i64 0, .int .i64 0, .int .i64 0, .int .i64 0, .slice none 0 0]) (t := 75) ?hr ?_; (case hd => rfl); (case hg => rfl); (case hr => first | (go_simp; done) | (go_simp; rfl)); intro gb310 hg w20 hbox hb; have n0_ := Aside0.mk (Kd.R_below (by (with_reducible repeat (first | apply Kd.R_alloc | apply Kd.R_drewN | apply Kd.R_drew)); exact HO_7.out) hb); have n1_ := Aside0.mk (MR_below (by (with_reducible repeat (first | apply MR_alloc | apply MR_drewN | apply MR_drew)); exact HO_8.out) hb); have n2_ := Aside0.mk (below_step (by repeat (first | (with_reducible first | exact HB.out | apply below_alloc | apply pw_below_drewN | apply below_drew1) | exact HB.out)) hb); have n3_ := Aside0.mk (hbox); have n4_ := Aside0.mk ((by rw [hg]; exact (below_size (by repeat (first | (with_reducible first | exact HB.out | apply below_alloc | apply pw_below_drewN | apply below_drew1) | exact HB.out))) : w.heap.size ≤ gb310)); have n5_ := Aside0.mk ((by rw [hg]; exact (below_size (by repeat (first | (with_reducible first | exact HB.out | apply below_alloc | apply pw_below_drewN | apply below_drew1) | exact HB.out))) : w.heap.size ≤ gb310)); clear HO_7; clear HO_8; clear HB; have HO_7 := n0_; have HO_8 := n1_; have HB := n2_; have BK310 := n3_; have GW310 := n4_; have GE310 := n5_; clear n0_ n1_ n2_ n3_ n4_ n5_; clear hb hbox hg; have hcz21_0 : w20.cell? ⟨gb310, 0, none⟩ = some (.int .i64 0) := (blk_cell BK310.out 0).trans rfl; have hcz21_1 : w20.cell? ⟨gb310, 1, none⟩ = some (.int .i64 0) := (blk_cell BK310.out 1).trans rfl; have hcz21_2 : w20.cell? ⟨gb310, 2, none⟩ = some (.int .i64 0) := (blk_cell BK310.out 2).trans rfl; have hcz21_3 : w20.cell? ⟨gb310, 3, none⟩ = some (.int .i64 0) := (blk_cell BK310.out 3).trans rfl; have hcz21_4 : w20.cell? ⟨gb310, 4, none⟩ = some (.slice none 0 0) := (blk_cell BK310.out 4).trans rfl; have hfz21_0 := blk_frozen BK310.out 0; have hfz21_1 := blk_frozen BK310.out 1; have hfz21_2 := blk_frozen BK310.out 2; have hfz21_3 := blk_frozen BK310.out 3; have hfz21_4 := blk_frozen BK310.out 4; obtain ⟨Ao22, co22, eo22⟩ := Kd.R_slice HO_7.out; subst eo22) | ((with_reducible refine gate_callee (f := 35) rfl ?_); refine goesL_ (some 63) rfl rfl Try.func35 (by kernel_rfl) rfl #[.slice Ao22 x7_2.length co22] rfl (by (try simp only [List.map_toArray, List.map_cons, List.map_nil]); first | done | rfl | (simp only [List.length_drop, List.length_take]; rfl)) ?_; (with_reducible refine (chain_Blocks.calls k2 _ _ x7_2 t311 true _ ?side1 ?side2 A17.out).mono ?_); (case side1 => refine (Kd.R_reads' (e := 28) (base := w.heap.size) (ok := fun k_ => True) (n := x7_2.length) (c := co22) ?_).2.2; exact (by (with_reducible repeat (first | apply Kd.R_alloc | apply Kd.R_drewN | apply Kd.R_drew)); exact (Kd.R_mono (Kd.R_far (p := ⟨gb310, 4, none⟩) (Kd.R_far (p := ⟨gb310, 3, none⟩) (Kd.R_far (p := ⟨gb310, 2, none⟩) (Kd.R_far (p := ⟨gb310, 1, none⟩) (Kd.R_far (p := ⟨gb310, 0, none⟩) (Kd.R_types HO_7.out BK310.out (by decide)) (fun _ hk => hk.2) (.int .i64 ((rd_T75 l2 x57_2).f0))) (fun _ hk => hk.2) (.int .i64 ((rd_T75 l2 x57_2).f1))) (fun _ hk => hk.2) (.int .i64 ((rd_T75 l2 x57_2).f2))) (fun _ hk => hk.2) (.int .i64 ((rd_T75 l2 x57_2).f3))) (fun _ hk => hk.2) (.slice A309_4 ((rd_T75 l2 x57_2).f4).length c309_4)) (fun _ h_ => h_.1)))); (case side2 => exact (Kd.R_reads' HO_7.out).2.1); rintro e w23 ⟨v313, rfl, ho0, hb⟩; refine ⟨_, rfl, ?_⟩; have n0_ := Aside0.mk (Kd.R_below (by (with_reducible repeat (first | apply Kd.R_alloc | apply Kd.R_drewN | apply Kd.R_drew)); exact (Kd.R_mono (Kd.R_far (p := ⟨gb310, 4, none⟩) (Kd.R_far (p := ⟨gb310, 3, none⟩) (Kd.R_far (p := ⟨gb310, 2, none⟩) (Kd.R_far (p := ⟨gb310, 1, none⟩) (Kd.R_far (p := ⟨gb310, 0, none⟩) (Kd.R_types HO_7.out BK310.out (by decide)) (fun _ hk => hk.2) (.int .i64 ((rd_T75 l2 x57_2).f0))) (fun _ hk => hk.2) (.int .i64 ((rd_T75 l2 x57_2).f1))) (fun _ hk => hk.2) (.int .i64 ((rd_T75 l2 x57_2).f2))) (fun _ hk => hk.2) (.int .i64 ((rd_T75 l2 x57_2).f3))) (fun _ hk => hk.2) (.slice A309_4 ((rd_T75 l2 x57_2).f4).length c309_4)) (fun _ h_ => h_.1))) hb); have n1_ := Aside0.mk (MR_below (by (with_reducible repeat (first | apply MR_alloc | apply MR_drewN | apply MR_drew)); exact (MR_mono (MR_far (p := ⟨gb310, 4, none⟩) (MR_far (p := ⟨gb310, 3, none⟩) (MR_far (p := ⟨gb310, 2, none⟩) (MR_far (p := ⟨gb310, 1, none⟩) (MR_far (p := ⟨gb310, 0, none⟩) (MR_types HO_8.out BK310.out (by decide)) (fun _ hk => hk.2) (.int .i64 ((rd_T75 l2 x57_2).f0))) (fun _ hk => hk.2) (.int .i64 ((rd_T75 l2 x57_2).f1))) (fun _ hk => hk.2) (.int .i64 ((rd_T75 l2 x57_2).f2))) (fun _ hk => hk.2) (.int .i64 ((rd_T75 l2 x57_2).f3))) (fun _ hk => hk.2) (.slice A309_4 ((rd_T75 l2 x57_2).f4).length c309_4)) (fun _ h_ => h_.1))) hb); have n2_ := Aside0.mk (Kd.R_lower ho0 (below_size (by repeat (first | (with_reducible first | exact HB.out | apply below_alloc | apply pw_below_drewN | apply below_drew1 | refine below_set ?_ GE310.out) | exact HB.out)))); have n3_ := Aside0.mk (blk_below (g := gb310) (o := .cells #[.int .i64 ((rd_T75 l2 x57_2).f0), .int .i64 ((rd_T75 l2 x57_2).f1), .int .i64 ((rd_T75 l2 x57_2).f2), .int .i64 ((rd_T75 l2 x57_2).f3), .slice A309_4 ((rd_T75 l2 x57_2).f4).length c309_4] 75 (0, 0)) (by (with_reducible repeat (first | refine blk_drewN ?_ _ | refine blk_drew ?_ | refine blk_alloc ?_ _)); refine blk_put (cs := #[.int .i64 ((rd_T75 l2 x57_2).f0), .int .i64 ((rd_T75 l2 x57_2).f1), .int .i64 ((rd_T75 l2 x57_2).f2), .int .i64 ((rd_T75 l2 x57_2).f3), .slice none 0 0]) ?_ 4 _ rfl; (with_reducible repeat (first | refine blk_drewN ?_ _ | refine blk_drew ?_ | refine blk_alloc ?_ _)); refine blk_put (cs := #[.int .i64 ((rd_T75 l2 x57_2).f0), .int .i64 ((rd_T75 l2 x57_2).f1), .int .i64 ((rd_T75 l2 x57_2).f2), .int .i64 0, .slice none 0 0]) ?_ 3 _ rfl; (with_reducible repeat (first | refine blk_drewN ?_ _ | refine blk_drew ?_ | refine blk_alloc ?_ _)); refine blk_put (cs := #[.int .i64 ((rd_T75 l2 x57_2).f0), .int .i64 ((rd_T75 l2 x57_2).f1), .int .i64 0, .int .i64 0, .slice none 0 0]) ?_ 2 _ rfl; (with_reducible repeat (first | refine blk_drewN ?_ _ | refine blk_drew ?_ | refine blk_alloc ?_ _)); refine blk_put (cs := #[.int .i64 ((rd_T75 l2 x57_2).f0), .int .i64 0, .int .i64 0, .int .i64 0, .slice none 0 0]) ?_ 1 _ rfl; (with_reducible repeat (first | refine blk_drewN ?_ _ | refine blk_drew ?_ | refine blk_alloc ?_ _)); refine blk_put (cs := #[.int .i64 0, .int .i64 0, .int .i64 0, .int .i64 0, .slice none 0 0]) ?_ 0 _ rfl; (with_reducible repeat (first | refine blk_drewN ?_ _ | refine blk_drew ?_ | refine blk_alloc ?_ _)); exact BK310.out) hb); have n4_ := Aside0.mk (below_step (by repeat (first | (with_reducible first | exact HB.out | apply below_alloc | apply pw_below_drewN | apply below_drew1 | refine below_set ?_ GE310.out) | exact HB.out)) hb); clear HO_7; clear HO_8; clear BK310; clear HB; have HO_7 := n0_; have HO_8 := n1_; have HO314 := n2_; have BK310 := n3_; have HB := n4_; clear n0_ n1_ n2_ n3_ n4_; (try clear hb); (try clear hb2); (try clear hk); (try clear hi); (try clear ho0); obtain ⟨Ao24, co24, eo24⟩ := Kd.R_slice HO314.out; subst eo24))
      go_loopg [13, 77] k2 (fun kq v13 v77 w' => ∃ (x13_3 : List Int) (x77_3 : Int), v77 = .int .i64 x77_3 ∧ Aside0 (darninglaw19_ImageKeeps.l1 kq (wrap64 (1 + (wrap64 (Int.tmod (IntKind.u64.wrap (a0)) 64)))) l1 x7_2 x8_2 t311 x13_3 l2 (l2.length : Int) x57_2 t311 (t311.length : Int) x77_3 ((rd_T75 l2 x57_2).f0) ((rd_T75 l2 x57_2).f1) ((rd_T75 l2 x57_2).f2) ((rd_T75 l2 x57_2).f3) ((rd_T75 l2 x57_2).f4) = some true) ∧ Aside0 (kq ≤ k2) ∧ Aside0 (Kd.R (Kd.int .u64) 28 w' w.heap.size (fun _ => True) (.slice Ao22 x7_2.length co22) x7_2) ∧ Aside0 (MR w' w.heap.size (fun _ => True) (.map (some mbH)) x8_2) ∧ Aside0 (Kd.R k35 35 w' w.heap.size (fun _ => True) (.slice Ao24 t311.length co24) t311) ∧ Aside0 (Kd.R (Kd.int .i64) 3 w' w.heap.size (fun _ => True) v13 x13_3) ∧ Aside0 (Kd.R k35 35 w' w.heap.size (fun _ => True) (.slice Ao24 t311.length co24) t311) ∧ Aside0 (w'.heap[gb310]? = some (.cells #[.int .i64 ((rd_T75 l2 x57_2).f0), .int .i64 ((rd_T75 l2 x57_2).f1), .int .i64 ((rd_T75 l2 x57_2).f2), .int .i64 ((rd_T75 l2 x57_2).f3), (.slice A309_4 ((rd_T75 l2 x57_2).f4).length c309_4)] 75 (0, 0))) ∧ Aside0 (Below w.heap.size w w'))
      case atStart => exact ⟨(([] : List Int)), (0), (by first | rfl | (simp; done) | (simp [*]; done)), H', ⟨Nat.le_refl _⟩, ⟨by (with_reducible repeat (first | apply Kd.R_alloc | apply Kd.R_drewN | apply Kd.R_drew)); exact HO_7.out⟩, ⟨by (with_reducible repeat (first | apply MR_alloc | apply MR_drewN | apply MR_drew)); exact HO_8.out⟩, ⟨by (with_reducible repeat (first | apply Kd.R_alloc | apply Kd.R_drewN | apply Kd.R_drew)); exact HO314.out⟩, ⟨by first | exact Kd.R_nil _ _ _ _ _ | exact Kd.N_nil _ _ _ _ _ | exact Kd.V_nil _ _ _ _ _ | exact Kd.Q_nil _ _ _ _ _ | exact Kd.S_nil _ _ _ _ _⟩, ⟨by (with_reducible repeat (first | apply Kd.R_alloc | apply Kd.R_drewN | apply Kd.R_drew)); exact HO314.out⟩, ⟨by (with_reducible repeat (first | refine blk_drewN ?_ _ | refine blk_drew ?_ | refine blk_alloc ?_ _)); exact BK310.out⟩, ⟨by repeat (first | (with_reducible first | exact HB.out | apply below_alloc | apply pw_below_drewN | apply below_drew1 | refine below_set ?_ GE310.out) | exact HB.out)⟩⟩
      case round =>
       as_aux_lemma =>
        clear H'
        try clear c1
        try clear c2
        try clear p2
        try clear c3
        try clear p3
        try clear q3
        try clear hx3
        try clear c4
        try clear c5
        try clear c6
        try clear c6b0
        try clear p6
        try clear c9
        try clear c14
        try clear c14b0
        try clear c15
        try clear c15b0
        try clear c16
        try clear c16b0
        try clear c18
        try clear c19
        try clear c19b0
        try clear c19b1
        try clear hcz21_0
        try clear hcz21_1
        try clear hcz21_2
        try clear hcz21_3
        try clear hcz21_4
        try clear hfz21_0
        try clear hfz21_1
        try clear hfz21_2
        try clear hfz21_3
        try clear hfz21_4
        try clear hx309_0
        try clear hx309_1
        try clear hx309_2
        try clear hx309_3
        try clear hx309_4
        try clear p2
        try clear p309
        try clear p6
        try clear q309
        obtain ⟨x13_3, x77_3, rfl, HA, HK3, HO_7, HO_8, HO_11, HO_13, HO_75, BK310, HB⟩ := hrel
        cases gk with
        | zero => exact absurd HA.out (by simp [darninglaw19_ImageKeeps.l1])
        | succ k3 =>
         have H := HA.out
         clear HA
         simp only [darninglaw19_ImageKeeps.l1] at H
         by_cases c25 : x77_3 < (t311.length : Int)
         ·
          rw [if_pos c25] at H
          have c25b0 : decide (x77_3 < (t311.length : Int)) = true := decide_eq_true c25
          clear c25
          have HC26 := Aside0.mk H
          clear H
          go_upto_block 3 with (fail)
          go_cut [13] (fun v13 wc => ∃ (kq : Nat) (x13_25 : List Int), Aside0 (darninglaw19_ImageKeeps.j3 kq (wrap64 (1 + (wrap64 (Int.tmod (IntKind.u64.wrap (a0)) 64)))) l1 x7_2 x8_2 t311 x13_25 l2 (l2.length : Int) x57_2 t311 (t311.length : Int) x77_3 ((rd_T75 l2 x57_2).f0) ((rd_T75 l2 x57_2).f1) ((rd_T75 l2 x57_2).f2) ((rd_T75 l2 x57_2).f3) ((rd_T75 l2 x57_2).f4) = some true) ∧ Aside0 (kq ≤ k3) ∧ Aside0 (Kd.R (Kd.int .u64) 28 wc w.heap.size (fun _ => True) (.slice Ao22 x7_2.length co22) x7_2) ∧ Aside0 (MR wc w.heap.size (fun _ => True) (.map (some mbH)) x8_2) ∧ Aside0 (Kd.R k35 35 wc w.heap.size (fun _ => True) (.slice Ao24 t311.length co24) t311) ∧ Aside0 (Kd.R (Kd.int .i64) 3 wc w.heap.size (fun _ => True) v13 x13_25) ∧ Aside0 (Kd.R k35 35 wc w.heap.size (fun _ => True) (.slice Ao24 t311.length co24) t311) ∧ Aside0 (wc.heap[gb310]? = some (.cells #[.int .i64 ((rd_T75 l2 x57_2).f0), .int .i64 ((rd_T75 l2 x57_2).f1), .int .i64 ((rd_T75 l2 x57_2).f2), .int .i64 ((rd_T75 l2 x57_2).f3), (.slice A309_4 ((rd_T75 l2 x57_2).f4).length c309_4)] 75 (0, 0))) ∧ Aside0 (Below w.heap.size w wc))
          case first =>
           as_aux_lemma =>
            have H := HC26.out
            clear HC26
            by_cases c27 : 0 ≤ x77_3
            rotate_left
            ·
             rw [if_neg c27] at H
             exact absurd H (by simp)
            rw [if_pos c27] at H
            have c27b0 : decide (0 ≤ x77_3) = true := decide_eq_true c27
            clear c27
            (first | rw [c27b0] | (simp only [i64_w, i32_w]; rw [c27b0]) | skip)
            by_cases c28 : x77_3 < (t311.length : Int)
            rotate_left
            ·
             rw [if_neg c28] at H
             exact absurd H (by simp)
            rw [if_pos c28] at H
            have c28b0 : decide (x77_3 < (t311.length : Int)) = true := decide_eq_true c28
            clear c28
            first | (generalize hbq29 : (rd_T35 t311 x77_3).f2 = bq29 at *; replace hbq29 := hbq29.symm) | (obtain ⟨bq29, hbq29⟩ : ∃ b_ : Bool, b_ = ((rd_T35 t311 x77_3).f2) := ⟨_, rfl⟩)
            replace H : (if bq29 = true then ((darningref4_Off.f ((rd_T35 t311 x77_3).f0) ((rd_T35 t311 x77_3).f1) bq29).bind fun t317 => (if x13_3.length < 17592186044416 then (darninglaw19_ImageKeeps.j3 k3 (wrap64 (1 + (wrap64 (Int.tmod (IntKind.u64.wrap (a0)) 64)))) l1 x7_2 x8_2 t311 (x13_3 ++ [t317]) l2 (l2.length : Int) x57_2 t311 (t311.length : Int) x77_3 ((rd_T75 l2 x57_2).f0) ((rd_T75 l2 x57_2).f1) ((rd_T75 l2 x57_2).f2) ((rd_T75 l2 x57_2).f3) ((rd_T75 l2 x57_2).f4)) else (none))) else (darninglaw19_ImageKeeps.j3 k3 (wrap64 (1 + (wrap64 (Int.tmod (IntKind.u64.wrap (a0)) 64)))) l1 x7_2 x8_2 t311 x13_3 l2 (l2.length : Int) x57_2 t311 (t311.length : Int) x77_3 ((rd_T75 l2 x57_2).f0) ((rd_T75 l2 x57_2).f1) ((rd_T75 l2 x57_2).f2) ((rd_T75 l2 x57_2).f3) ((rd_T75 l2 x57_2).f4))) = some true := by first | exact H | (rw [← hbq29] at H; exact H)
            have Nbq29 := Aside0.mk hbq29
            clear hbq29
            (try rw [← Nbq29.out])
            by_cases c30 : bq29 = true
            rotate_left
            ·
             replace c30 := Bool.eq_false_iff.mpr c30
             subst c30
             have H1 : (darninglaw19_ImageKeeps.j3 k3 (wrap64 (1 + (wrap64 (Int.tmod (IntKind.u64.wrap (a0)) 64)))) l1 x7_2 x8_2 t311 x13_3 l2 (l2.length : Int) x57_2 t311 (t311.length : Int) x77_3 ((rd_T75 l2 x57_2).f0) ((rd_T75 l2 x57_2).f1) ((rd_T75 l2 x57_2).f2) ((rd_T75 l2 x57_2).f3) ((rd_T75 l2 x57_2).f4)) = some true := by rw [if_neg (show ¬ (false = true) by decide)] at H; exact H
             clear H
             have H := H1
             clear H1
             as_aux_lemma =>
              have H' := Aside0.mk H
              clear H
              have p315 : 0 ≤ (x77_3 : Int) := of_decide_eq_true (by first | (with_reducible assumption) | assumption)
              have q315 : x77_3 < (t311.length : Int) := of_decide_eq_true (by first | (with_reducible assumption) | assumption)
              obtain ⟨ad315, e315, hx315_0, hx315_1, hx315_2⟩ := at_T35 (Kd.R_reads' HO_75.out).2.2 x77_3 p315 q315
              (try rw [← Nbq29.out] at hx315_2)
              cases e315
              replace p315 := eq_true p315
              replace q315 := eq_true q315
              go_wp2_with (first | ((with_reducible refine gate_dst (N := 15) rfl ?_); (try (refine gate_guard (by rfl) ?_; dsimp only)); refine box_event ?hg (N := 15) ?hd (cs := #[.int .i64 0, .int .i64 0, .bool false]) (t := 35) ?hr ?_; (case hd => rfl); (case hg => rfl); (case hr => first | (go_simp; done) | (go_simp; rfl)); intro gb316 hg w38 hbox hb; have n0_ := Aside0.mk (Kd.R_below (by (with_reducible repeat (first | apply Kd.R_alloc | apply Kd.R_drewN | apply Kd.R_drew)); exact HO_7.out) hb); have n1_ := Aside0.mk (MR_below (by (with_reducible repeat (first | apply MR_alloc | apply MR_drewN | apply MR_drew)); exact HO_8.out) hb); have n2_ := Aside0.mk (Kd.R_below (Kd.R_elderB (by (with_reducible repeat (first | apply Kd.R_alloc | apply Kd.R_drewN | apply Kd.R_drew)); exact HO_11.out) gb316 (Nat.le_of_eq hg.symm)) hb); have n3_ := Aside0.mk (Kd.R_below (by (with_reducible repeat (first | apply Kd.R_alloc | apply Kd.R_drewN | apply Kd.R_drew)); exact HO_13.out) hb); have n4_ := Aside0.mk (Kd.R_below (Kd.R_elderB (by (with_reducible repeat (first | apply Kd.R_alloc | apply Kd.R_drewN | apply Kd.R_drew)); exact HO_75.out) gb316 (Nat.le_of_eq hg.symm)) hb); have n5_ := Aside0.mk (blk_below (g := gb310) (o := .cells #[.int .i64 ((rd_T75 l2 x57_2).f0), .int .i64 ((rd_T75 l2 x57_2).f1), .int .i64 ((rd_T75 l2 x57_2).f2), .int .i64 ((rd_T75 l2 x57_2).f3), .slice A309_4 ((rd_T75 l2 x57_2).f4).length c309_4] 75 (0, 0)) (by (with_reducible repeat (first | refine blk_drewN ?_ _ | refine blk_drew ?_ | refine blk_alloc ?_ _)); exact BK310.out) hb); have n6_ := Aside0.mk (below_step (by repeat (first | (with_reducible first | exact HB.out | apply below_alloc | apply pw_below_drewN | apply below_drew1 | refine below_set ?_ GE310.out) | exact HB.out)) hb); have n7_ := Aside0.mk (hbox); have n8_ := Aside0.mk ((by rw [hg]; exact (below_size (by repeat (first | (with_reducible first | exact HB.out | apply below_alloc | apply pw_below_drewN | apply below_drew1 | refine below_set ?_ GE310.out) | exact HB.out))) : w.heap.size ≤ gb316)); have n9_ := Aside0.mk ((by rw [hg]; exact (below_size (by repeat (first | (with_reducible first | exact HB.out | apply below_alloc | apply pw_below_drewN | apply below_drew1 | refine below_set ?_ GE310.out) | exact HB.out))) : w.heap.size ≤ gb316)); have n10_ := Aside0.mk ((by rw [hg]; exact Nat.ne_of_lt (blk_lt (g := gb310) (o := .cells #[.int .i64 ((rd_T75 l2 x57_2).f0), .int .i64 ((rd_T75 l2 x57_2).f1), .int .i64 ((rd_T75 l2 x57_2).f2), .int .i64 ((rd_T75 l2 x57_2).f3), .slice A309_4 ((rd_T75 l2 x57_2).f4).length c309_4] 75 (0, 0)) (by (with_reducible repeat (first | refine blk_drewN ?_ _ | refine blk_drew ?_ | refine blk_alloc ?_ _)); exact BK310.out)) : gb310 ≠ gb316)); have n11_ := Aside0.mk ((by rw [hg]; exact Nat.ne_of_gt (blk_lt (g := gb310) (o := .cells #[.int .i64 ((rd_T75 l2 x57_2).f0), .int .i64 ((rd_T75 l2 x57_2).f1), .int .i64 ((rd_T75 l2 x57_2).f2), .int .i64 ((rd_T75 l2 x57_2).f3), .slice A309_4 ((rd_T75 l2 x57_2).f4).length c309_4] 75 (0, 0)) (by (with_reducible repeat (first | refine blk_drewN ?_ _ | refine blk_drew ?_ | refine blk_alloc ?_ _)); exact BK310.out)) : gb316 ≠ gb310)); clear HO_7; clear HO_8; clear HO_11; clear HO_13; clear HO_75; clear BK310; clear HB; have HO_7 := n0_; have HO_8 := n1_; have HO_11 := n2_; have HO_13 := n3_; have HO_75 := n4_; have BK310 := n5_; have HB := n6_; have BK316 := n7_; have GW316 := n8_; have GE316 := n9_; have NB310_316 := n10_; have NB316_310 := n11_; clear n0_ n1_ n2_ n3_ n4_ n5_ n6_ n7_ n8_ n9_ n10_ n11_; clear hb hbox hg; have hnb39 := NB316_310.out; have hnc39 := NB310_316.out; have hcz40_0 : w38.cell? ⟨gb316, 0, none⟩ = some (.int .i64 0) := (blk_cell BK316.out 0).trans rfl; have hcz40_1 : w38.cell? ⟨gb316, 1, none⟩ = some (.int .i64 0) := (blk_cell BK316.out 1).trans rfl; have hcz40_2 : w38.cell? ⟨gb316, 2, none⟩ = some (.bool false) := (blk_cell BK316.out 2).trans rfl; have hfz40_0 := blk_frozen BK316.out 0; have hfz40_1 := blk_frozen BK316.out 1; have hfz40_2 := blk_frozen BK316.out 2))
              go_meet
              case rel => (try simp only [← Nbq29.out]); exact ⟨_, (x13_3), H', ⟨by have := HJ3.out; have := HK2.out; have := HK3.out; first | omega | exact Nat.le_refl _⟩, ⟨by (with_reducible repeat (first | apply Kd.R_alloc | apply Kd.R_drewN | apply Kd.R_drew)); exact Kd.R_mono (Kd.R_far (p := ⟨gb316, 2, none⟩) (Kd.R_far (p := ⟨gb316, 1, none⟩) (Kd.R_far (p := ⟨gb316, 0, none⟩) (Kd.R_types HO_7.out BK316.out (by decide)) (fun _ hk => hk.2) (.int .i64 ((rd_T35 t311 x77_3).f0))) (fun _ hk => hk.2) (.int .i64 ((rd_T35 t311 x77_3).f1))) (fun _ hk => hk.2) (.bool false)) (fun _ hk => trivial)⟩, ⟨by (with_reducible repeat (first | apply Kd.R_alloc | apply Kd.R_drewN | apply Kd.R_drew)); exact MR_mono (MR_far (p := ⟨gb316, 2, none⟩) (MR_far (p := ⟨gb316, 1, none⟩) (MR_far (p := ⟨gb316, 0, none⟩) (MR_types HO_8.out BK316.out (by decide)) (fun _ hk => hk.2) (.int .i64 ((rd_T35 t311 x77_3).f0))) (fun _ hk => hk.2) (.int .i64 ((rd_T35 t311 x77_3).f1))) (fun _ hk => hk.2) (.bool false)) (fun _ hk => trivial)⟩, ⟨by (with_reducible repeat (first | apply Kd.R_alloc | apply Kd.R_drewN | apply Kd.R_drew)); exact Kd.R_mono (Kd.R_far (p := ⟨gb316, 2, none⟩) (Kd.R_far (p := ⟨gb316, 1, none⟩) (Kd.R_far (p := ⟨gb316, 0, none⟩) (Kd.R_mono HO_11.out (fun k_ hk => (⟨hk, hk.2⟩ : _ ∧ k_ ≠ gb316))) (fun _ hk => hk.2) (.int .i64 ((rd_T35 t311 x77_3).f0))) (fun _ hk => hk.2) (.int .i64 ((rd_T35 t311 x77_3).f1))) (fun _ hk => hk.2) (.bool false)) (fun _ hk => trivial)⟩, ⟨by (with_reducible repeat (first | apply Kd.R_alloc | apply Kd.R_drewN | apply Kd.R_drew)); exact Kd.R_mono (Kd.R_far (p := ⟨gb316, 2, none⟩) (Kd.R_far (p := ⟨gb316, 1, none⟩) (Kd.R_far (p := ⟨gb316, 0, none⟩) (Kd.R_types HO_13.out BK316.out (by decide)) (fun _ hk => hk.2) (.int .i64 ((rd_T35 t311 x77_3).f0))) (fun _ hk => hk.2) (.int .i64 ((rd_T35 t311 x77_3).f1))) (fun _ hk => hk.2) (.bool false)) (fun _ hk => trivial)⟩, ⟨by (with_reducible repeat (first | apply Kd.R_alloc | apply Kd.R_drewN | apply Kd.R_drew)); exact Kd.R_mono (Kd.R_far (p := ⟨gb316, 2, none⟩) (Kd.R_far (p := ⟨gb316, 1, none⟩) (Kd.R_far (p := ⟨gb316, 0, none⟩) (Kd.R_mono HO_75.out (fun k_ hk => (⟨hk, hk.2⟩ : _ ∧ k_ ≠ gb316))) (fun _ hk => hk.2) (.int .i64 ((rd_T35 t311 x77_3).f0))) (fun _ hk => hk.2) (.int .i64 ((rd_T35 t311 x77_3).f1))) (fun _ hk => hk.2) (.bool false)) (fun _ hk => trivial)⟩, ⟨by (with_reducible repeat (first | refine blk_drewN ?_ _ | refine blk_drew ?_ | refine blk_alloc ?_ _)); refine blk_far ?_ NB310_316.out _; (with_reducible repeat (first | refine blk_drewN ?_ _ | refine blk_drew ?_ | refine blk_alloc ?_ _)); refine blk_far ?_ NB310_316.out _; (with_reducible repeat (first | refine blk_drewN ?_ _ | refine blk_drew ?_ | refine blk_alloc ?_ _)); refine blk_far ?_ NB310_316.out _; (with_reducible repeat (first | refine blk_drewN ?_ _ | refine blk_drew ?_ | refine blk_alloc ?_ _)); exact BK310.out⟩, ⟨by repeat (first | (with_reducible first | exact HB.out | apply below_alloc | apply pw_below_drewN | apply below_drew1 | refine below_set ?_ GE310.out | refine below_set ?_ GE316.out) | exact HB.out)⟩⟩
            subst c30
            have H1 : ((darningref4_Off.f ((rd_T35 t311 x77_3).f0) ((rd_T35 t311 x77_3).f1) true).bind fun t317 => (if x13_3.length < 17592186044416 then (darninglaw19_ImageKeeps.j3 k3 (wrap64 (1 + (wrap64 (Int.tmod (IntKind.u64.wrap (a0)) 64)))) l1 x7_2 x8_2 t311 (x13_3 ++ [t317]) l2 (l2.length : Int) x57_2 t311 (t311.length : Int) x77_3 ((rd_T75 l2 x57_2).f0) ((rd_T75 l2 x57_2).f1) ((rd_T75 l2 x57_2).f2) ((rd_T75 l2 x57_2).f3) ((rd_T75 l2 x57_2).f4)) else (none))) = some true := by rw [if_pos rfl] at H; exact H
            clear H
            have H := H1
            clear H1
            replace H := Option.bind_eq_some_iff.mp H
            obtain ⟨t317, A310, H⟩ := H
            replace H : (if x13_3.length < 17592186044416 then (darninglaw19_ImageKeeps.j3 k3 (wrap64 (1 + (wrap64 (Int.tmod (IntKind.u64.wrap (a0)) 64)))) l1 x7_2 x8_2 t311 (x13_3 ++ [t317]) l2 (l2.length : Int) x57_2 t311 (t311.length : Int) x77_3 ((rd_T75 l2 x57_2).f0) ((rd_T75 l2 x57_2).f1) ((rd_T75 l2 x57_2).f2) ((rd_T75 l2 x57_2).f3) ((rd_T75 l2 x57_2).f4)) else (none)) = some true := H
            have A31 := Aside0.mk A310
            clear A310
            by_cases c32 : x13_3.length < 17592186044416
            rotate_left
            ·
             rw [if_neg c32] at H
             exact absurd H (by simp)
            rw [if_pos c32] at H
            have LMc32 := Aside0.mk c32
            clear c32
            obtain ⟨y318, hy318⟩ : ∃ y_ : List Int, y_ = (x13_3 ++ [t317]) := ⟨_, rfl⟩
            replace H : (darninglaw19_ImageKeeps.j3 k3 (wrap64 (1 + (wrap64 (Int.tmod (IntKind.u64.wrap (a0)) 64)))) l1 x7_2 x8_2 t311 y318 l2 (l2.length : Int) x57_2 t311 (t311.length : Int) x77_3 ((rd_T75 l2 x57_2).f0) ((rd_T75 l2 x57_2).f1) ((rd_T75 l2 x57_2).f2) ((rd_T75 l2 x57_2).f3) ((rd_T75 l2 x57_2).f4)) = some true := by first | (rw [hy318]; with_reducible exact H) | (have H2_ := (Option.bind_some _ _).symm.trans H; rw [hy318]; with_reducible exact H2_) | (have H2_ := (Option.bind_some _ _).symm.trans H; with_reducible exact H2_) | with_reducible exact H | (rw [hy318]; exact H) | exact H
            have Ny318 := Aside0.mk hy318
            clear hy318
            as_aux_lemma =>
             have H' := Aside0.mk H
             clear H
             have p315 : 0 ≤ (x77_3 : Int) := of_decide_eq_true (by first | (with_reducible assumption) | assumption)
             have q315 : x77_3 < (t311.length : Int) := of_decide_eq_true (by first | (with_reducible assumption) | assumption)
             obtain ⟨ad315, e315, hx315_0, hx315_1, hx315_2⟩ := at_T35 (Kd.R_reads' HO_75.out).2.2 x77_3 p315 q315
             (try rw [← Nbq29.out] at hx315_2)
             cases e315
             replace p315 := eq_true p315
             replace q315 := eq_true q315
             go_wp2_with (first | ((with_reducible refine gate_dst (N := 15) rfl ?_); (try (refine gate_guard (by rfl) ?_; dsimp only)); refine box_event ?hg (N := 15) ?hd (cs := #[.int .i64 0, .int .i64 0, .bool false]) (t := 35) ?hr ?_; (case hd => rfl); (case hg => rfl); (case hr => first | (go_simp; done) | (go_simp; rfl)); intro gb316 hg w33 hbox hb; have n0_ := Aside0.mk (Kd.R_below (by (with_reducible repeat (first | apply Kd.R_alloc | apply Kd.R_drewN | apply Kd.R_drew)); exact HO_7.out) hb); have n1_ := Aside0.mk (MR_below (by (with_reducible repeat (first | apply MR_alloc | apply MR_drewN | apply MR_drew)); exact HO_8.out) hb); have n2_ := Aside0.mk (Kd.R_below (Kd.R_elderB (by (with_reducible repeat (first | apply Kd.R_alloc | apply Kd.R_drewN | apply Kd.R_drew)); exact HO_11.out) gb316 (Nat.le_of_eq hg.symm)) hb); have n3_ := Aside0.mk (Kd.R_below (by (with_reducible repeat (first | apply Kd.R_alloc | apply Kd.R_drewN | apply Kd.R_drew)); exact HO_13.out) hb); have n4_ := Aside0.mk (Kd.R_below (Kd.R_elderB (by (with_reducible repeat (first | apply Kd.R_alloc | apply Kd.R_drewN | apply Kd.R_drew)); exact HO_75.out) gb316 (Nat.le_of_eq hg.symm)) hb); have n5_ := Aside0.mk (blk_below (g := gb310) (o := .cells #[.int .i64 ((rd_T75 l2 x57_2).f0), .int .i64 ((rd_T75 l2 x57_2).f1), .int .i64 ((rd_T75 l2 x57_2).f2), .int .i64 ((rd_T75 l2 x57_2).f3), .slice A309_4 ((rd_T75 l2 x57_2).f4).length c309_4] 75 (0, 0)) (by (with_reducible repeat (first | refine blk_drewN ?_ _ | refine blk_drew ?_ | refine blk_alloc ?_ _)); exact BK310.out) hb); have n6_ := Aside0.mk (below_step (by repeat (first | (with_reducible first | exact HB.out | apply below_alloc | apply pw_below_drewN | apply below_drew1 | refine below_set ?_ GE310.out) | exact HB.out)) hb); have n7_ := Aside0.mk (hbox); have n8_ := Aside0.mk ((by rw [hg]; exact (below_size (by repeat (first | (with_reducible first | exact HB.out | apply below_alloc | apply pw_below_drewN | apply below_drew1 | refine below_set ?_ GE310.out) | exact HB.out))) : w.heap.size ≤ gb316)); have n9_ := Aside0.mk ((by rw [hg]; exact (below_size (by repeat (first | (with_reducible first | exact HB.out | apply below_alloc | apply pw_below_drewN | apply below_drew1 | refine below_set ?_ GE310.out) | exact HB.out))) : w.heap.size ≤ gb316)); have n10_ := Aside0.mk ((by rw [hg]; exact Nat.ne_of_lt (blk_lt (g := gb310) (o := .cells #[.int .i64 ((rd_T75 l2 x57_2).f0), .int .i64 ((rd_T75 l2 x57_2).f1), .int .i64 ((rd_T75 l2 x57_2).f2), .int .i64 ((rd_T75 l2 x57_2).f3), .slice A309_4 ((rd_T75 l2 x57_2).f4).length c309_4] 75 (0, 0)) (by (with_reducible repeat (first | refine blk_drewN ?_ _ | refine blk_drew ?_ | refine blk_alloc ?_ _)); exact BK310.out)) : gb310 ≠ gb316)); have n11_ := Aside0.mk ((by rw [hg]; exact Nat.ne_of_gt (blk_lt (g := gb310) (o := .cells #[.int .i64 ((rd_T75 l2 x57_2).f0), .int .i64 ((rd_T75 l2 x57_2).f1), .int .i64 ((rd_T75 l2 x57_2).f2), .int .i64 ((rd_T75 l2 x57_2).f3), .slice A309_4 ((rd_T75 l2 x57_2).f4).length c309_4] 75 (0, 0)) (by (with_reducible repeat (first | refine blk_drewN ?_ _ | refine blk_drew ?_ | refine blk_alloc ?_ _)); exact BK310.out)) : gb316 ≠ gb310)); clear HO_7; clear HO_8; clear HO_11; clear HO_13; clear HO_75; clear BK310; clear HB; have HO_7 := n0_; have HO_8 := n1_; have HO_11 := n2_; have HO_13 := n3_; have HO_75 := n4_; have BK310 := n5_; have HB := n6_; have BK316 := n7_; have GW316 := n8_; have GE316 := n9_; have NB310_316 := n10_; have NB316_310 := n11_; clear n0_ n1_ n2_ n3_ n4_ n5_ n6_ n7_ n8_ n9_ n10_ n11_; clear hb hbox hg; have hnb34 := NB316_310.out; have hnc34 := NB310_316.out; have hcz35_0 : w33.cell? ⟨gb316, 0, none⟩ = some (.int .i64 0) := (blk_cell BK316.out 0).trans rfl; have hcz35_1 : w33.cell? ⟨gb316, 1, none⟩ = some (.int .i64 0) := (blk_cell BK316.out 1).trans rfl; have hcz35_2 : w33.cell? ⟨gb316, 2, none⟩ = some (.bool false) := (blk_cell BK316.out 2).trans rfl; have hfz35_0 := blk_frozen BK316.out 0; have hfz35_1 := blk_frozen BK316.out 1; have hfz35_2 := blk_frozen BK316.out 2) | ((with_reducible refine gate_callee (f := 29) rfl ?_); refine goesL_ (some 85) rfl rfl Try.func29 (by kernel_rfl) rfl #[.agg #[.int .i64 ((rd_T35 t311 x77_3).f0), .int .i64 ((rd_T35 t311 x77_3).f1), .bool true]] rfl (by (try simp only [List.map_toArray, List.map_cons, List.map_nil]); first | done | rfl | (simp only [List.length_drop, List.length_take]; rfl)) ?_; (with_reducible refine (darningref4_Off.calls ((rd_T35 t311 x77_3).f0) ((rd_T35 t311 x77_3).f1) true t317 _ A31.out).mono ?_); rintro e w36 ⟨rfl, hb⟩; refine ⟨_, rfl, ?_⟩; have n0_ := Aside0.mk (Kd.R_below (by (with_reducible repeat (first | apply Kd.R_alloc | apply Kd.R_drewN | apply Kd.R_drew)); exact (Kd.R_mono (Kd.R_far (p := ⟨gb316, 2, none⟩) (Kd.R_far (p := ⟨gb316, 1, none⟩) (Kd.R_far (p := ⟨gb316, 0, none⟩) (Kd.R_types HO_7.out BK316.out (by decide)) (fun _ hk => hk.2) (.int .i64 ((rd_T35 t311 x77_3).f0))) (fun _ hk => hk.2) (.int .i64 ((rd_T35 t311 x77_3).f1))) (fun _ hk => hk.2) (.bool true)) (fun _ h_ => h_.1))) hb); have n1_ := Aside0.mk (MR_below (by (with_reducible repeat (first | apply MR_alloc | apply MR_drewN | apply MR_drew)); exact (MR_mono (MR_far (p := ⟨gb316, 2, none⟩) (MR_far (p := ⟨gb316, 1, none⟩) (MR_far (p := ⟨gb316, 0, none⟩) (MR_types HO_8.out BK316.out (by decide)) (fun _ hk => hk.2) (.int .i64 ((rd_T35 t311 x77_3).f0))) (fun _ hk => hk.2) (.int .i64 ((rd_T35 t311 x77_3).f1))) (fun _ hk => hk.2) (.bool true)) (fun _ h_ => h_.1))) hb); have n2_ := Aside0.mk (Kd.R_below (by (with_reducible repeat (first | apply Kd.R_alloc | apply Kd.R_drewN | apply Kd.R_drew)); exact (Kd.R_mono (Kd.R_far (p := ⟨gb316, 2, none⟩) (Kd.R_far (p := ⟨gb316, 1, none⟩) (Kd.R_far (p := ⟨gb316, 0, none⟩) (Kd.R_mono HO_11.out (fun k_ hk => (⟨hk, hk.2⟩ : _ ∧ k_ ≠ gb316))) (fun _ hk => hk.2) (.int .i64 ((rd_T35 t311 x77_3).f0))) (fun _ hk => hk.2) (.int .i64 ((rd_T35 t311 x77_3).f1))) (fun _ hk => hk.2) (.bool true)) (fun _ h_ => h_.1))) hb); have n3_ := Aside0.mk (Kd.R_below (by (with_reducible repeat (first | apply Kd.R_alloc | apply Kd.R_drewN | apply Kd.R_drew)); exact (Kd.R_mono (Kd.R_far (p := ⟨gb316, 2, none⟩) (Kd.R_far (p := ⟨gb316, 1, none⟩) (Kd.R_far (p := ⟨gb316, 0, none⟩) (Kd.R_types HO_13.out BK316.out (by decide)) (fun _ hk => hk.2) (.int .i64 ((rd_T35 t311 x77_3).f0))) (fun _ hk => hk.2) (.int .i64 ((rd_T35 t311 x77_3).f1))) (fun _ hk => hk.2) (.bool true)) (fun _ h_ => h_.1))) hb); have n4_ := Aside0.mk (Kd.R_below (by (with_reducible repeat (first | apply Kd.R_alloc | apply Kd.R_drewN | apply Kd.R_drew)); exact (Kd.R_mono (Kd.R_far (p := ⟨gb316, 2, none⟩) (Kd.R_far (p := ⟨gb316, 1, none⟩) (Kd.R_far (p := ⟨gb316, 0, none⟩) (Kd.R_mono HO_75.out (fun k_ hk => (⟨hk, hk.2⟩ : _ ∧ k_ ≠ gb316))) (fun _ hk => hk.2) (.int .i64 ((rd_T35 t311 x77_3).f0))) (fun _ hk => hk.2) (.int .i64 ((rd_T35 t311 x77_3).f1))) (fun _ hk => hk.2) (.bool true)) (fun _ h_ => h_.1))) hb); have n5_ := Aside0.mk (blk_below (g := gb310) (o := .cells #[.int .i64 ((rd_T75 l2 x57_2).f0), .int .i64 ((rd_T75 l2 x57_2).f1), .int .i64 ((rd_T75 l2 x57_2).f2), .int .i64 ((rd_T75 l2 x57_2).f3), .slice A309_4 ((rd_T75 l2 x57_2).f4).length c309_4] 75 (0, 0)) (by (with_reducible repeat (first | refine blk_drewN ?_ _ | refine blk_drew ?_ | refine blk_alloc ?_ _)); refine blk_far ?_ NB310_316.out _; (with_reducible repeat (first | refine blk_drewN ?_ _ | refine blk_drew ?_ | refine blk_alloc ?_ _)); refine blk_far ?_ NB310_316.out _; (with_reducible repeat (first | refine blk_drewN ?_ _ | refine blk_drew ?_ | refine blk_alloc ?_ _)); refine blk_far ?_ NB310_316.out _; (with_reducible repeat (first | refine blk_drewN ?_ _ | refine blk_drew ?_ | refine blk_alloc ?_ _)); exact BK310.out) hb); have n6_ := Aside0.mk (blk_below (g := gb316) (o := .cells #[.int .i64 ((rd_T35 t311 x77_3).f0), .int .i64 ((rd_T35 t311 x77_3).f1), .bool true] 35 (0, 0)) (by (with_reducible repeat (first | refine blk_drewN ?_ _ | refine blk_drew ?_ | refine blk_alloc ?_ _)); refine blk_put (cs := #[.int .i64 ((rd_T35 t311 x77_3).f0), .int .i64 ((rd_T35 t311 x77_3).f1), .bool false]) ?_ 2 _ rfl; (with_reducible repeat (first | refine blk_drewN ?_ _ | refine blk_drew ?_ | refine blk_alloc ?_ _)); refine blk_put (cs := #[.int .i64 ((rd_T35 t311 x77_3).f0), .int .i64 0, .bool false]) ?_ 1 _ rfl; (with_reducible repeat (first | refine blk_drewN ?_ _ | refine blk_drew ?_ | refine blk_alloc ?_ _)); refine blk_put (cs := #[.int .i64 0, .int .i64 0, .bool false]) ?_ 0 _ rfl; (with_reducible repeat (first | refine blk_drewN ?_ _ | refine blk_drew ?_ | refine blk_alloc ?_ _)); exact BK316.out) hb); have n7_ := Aside0.mk (below_step (by repeat (first | (with_reducible first | exact HB.out | apply below_alloc | apply pw_below_drewN | apply below_drew1 | refine below_set ?_ GE310.out | refine below_set ?_ GE316.out) | exact HB.out)) hb); clear HO_7; clear HO_8; clear HO_11; clear HO_13; clear HO_75; clear BK310; clear BK316; clear HB; have HO_7 := n0_; have HO_8 := n1_; have HO_11 := n2_; have HO_13 := n3_; have HO_75 := n4_; have BK310 := n5_; have BK316 := n6_; have HB := n7_; clear n0_ n1_ n2_ n3_ n4_ n5_ n6_ n7_; (try clear hb); (try clear hb2); (try clear hk); (try clear hi)) | ((with_reducible refine gate_builtin (b := .append) (xs := #[.tmp 83, .tmp 86]) rfl ?_); (try (refine gate_guard (by rfl) ?_; dsimp only)); at_builtin; refine Kd.R_append (Kd.int .i64) (w0 := w) w.heap.size rfl (.tmp 83) (.tmp 86) 38 3 (.int .i64 0) 8 rfl Try.underlying38 info3 rfl (by decide) (by omega) u13 x13_3 t317 [.int .i64 t317] (fun _ => True) (fun _ => False) rfl rfl ?aP (fun _ hk => hk.elim) ?aF ?aO ?aB ?aS ?aL ?_; (case aP => exact rfl); (case aB => exact (by repeat (first | (with_reducible first | exact HB.out | apply below_alloc | apply pw_below_drewN | apply below_drew1 | refine below_set ?_ GE310.out | refine below_set ?_ GE316.out) | exact HB.out))); (case aF => exact (fun _ _ => trivial)); (case aO => exact (by (with_reducible repeat (first | apply Kd.R_alloc | apply Kd.R_drewN | apply Kd.R_drew)); exact HO_13.out)); (case aS => exact (below_size (by repeat (first | (with_reducible first | exact HB.out | apply below_alloc | apply pw_below_drewN | apply below_drew1 | refine below_set ?_ GE310.out | refine below_set ?_ GE316.out) | exact HB.out)))); (case aL => have := LMc32.out; omega); intro v319 w37 ho hb hg hat; rw [← Ny318.out] at ho; have n0_ := Aside0.mk (Kd.R_over' (by (with_reducible repeat (first | apply Kd.R_alloc | apply Kd.R_drewN | apply Kd.R_drew)); exact HO_7.out) (Kd.R_typed (by (with_reducible repeat (first | apply Kd.R_alloc | apply Kd.R_drewN | apply Kd.R_drew)); exact HO_13.out)) (by decide) hg); have n1_ := Aside0.mk (MR_over' (by (with_reducible repeat (first | apply MR_alloc | apply MR_drewN | apply MR_drew)); exact HO_8.out) (Kd.R_typed (by (with_reducible repeat (first | apply Kd.R_alloc | apply Kd.R_drewN | apply Kd.R_drew)); exact HO_13.out)) (by decide) hg); have n2_ := Aside0.mk (Kd.R_over' (by (with_reducible repeat (first | apply Kd.R_alloc | apply Kd.R_drewN | apply Kd.R_drew)); exact HO_11.out) (Kd.R_typed (by (with_reducible repeat (first | apply Kd.R_alloc | apply Kd.R_drewN | apply Kd.R_drew)); exact HO_13.out)) (by decide) hg); have n3_ := Aside0.mk (Kd.R_over' (by (with_reducible repeat (first | apply Kd.R_alloc | apply Kd.R_drewN | apply Kd.R_drew)); exact HO_75.out) (Kd.R_typed (by (with_reducible repeat (first | apply Kd.R_alloc | apply Kd.R_drewN | apply Kd.R_drew)); exact HO_13.out)) (by decide) hg); have n4_ := Aside0.mk (blk_grown (g := gb310) (o := .cells #[.int .i64 ((rd_T75 l2 x57_2).f0), .int .i64 ((rd_T75 l2 x57_2).f1), .int .i64 ((rd_T75 l2 x57_2).f2), .int .i64 ((rd_T75 l2 x57_2).f3), .slice A309_4 ((rd_T75 l2 x57_2).f4).length c309_4] 75 (0, 0)) (by (with_reducible repeat (first | refine blk_drewN ?_ _ | refine blk_drew ?_ | refine blk_alloc ?_ _)); exact BK310.out) hg (Kd.R_ne HO_13.out BK310.out (by decide))); have n5_ := Aside0.mk (blk_grown (g := gb316) (o := .cells #[.int .i64 ((rd_T35 t311 x77_3).f0), .int .i64 ((rd_T35 t311 x77_3).f1), .bool true] 35 (0, 0)) (by (with_reducible repeat (first | refine blk_drewN ?_ _ | refine blk_drew ?_ | refine blk_alloc ?_ _)); exact BK316.out) hg (Kd.R_ne HO_13.out BK316.out (by decide))); have n6_ := Aside0.mk (hb); have n7_ := Aside0.mk (ho); clear HO_7; clear HO_8; clear HO_11; clear HO_75; clear BK310; clear BK316; clear HB; clear HO_13; have HO_7 := n0_; have HO_8 := n1_; have HO_11 := n2_; have HO_75 := n3_; have BK310 := n4_; have BK316 := n5_; have HB := n6_; have HO320 := n7_; clear n0_ n1_ n2_ n3_ n4_ n5_ n6_ n7_; clear ho hb hg hat))
             go_meet
             case rel => (try simp only [← Nbq29.out]); exact ⟨_, (y318), H', ⟨by have := HJ3.out; have := HK2.out; have := HK3.out; first | omega | exact Nat.le_refl _⟩, ⟨by (with_reducible repeat (first | apply Kd.R_alloc | apply Kd.R_drewN | apply Kd.R_drew)); exact HO_7.out⟩, ⟨by (with_reducible repeat (first | apply MR_alloc | apply MR_drewN | apply MR_drew)); exact HO_8.out⟩, ⟨by (with_reducible repeat (first | apply Kd.R_alloc | apply Kd.R_drewN | apply Kd.R_drew)); exact Kd.R_mono HO_11.out (fun _ hk => trivial)⟩, ⟨by (with_reducible repeat (first | apply Kd.R_alloc | apply Kd.R_drewN | apply Kd.R_drew)); exact HO320.out⟩, ⟨by (with_reducible repeat (first | apply Kd.R_alloc | apply Kd.R_drewN | apply Kd.R_drew)); exact Kd.R_mono HO_75.out (fun _ hk => trivial)⟩, ⟨by (with_reducible repeat (first | refine blk_drewN ?_ _ | refine blk_drew ?_ | refine blk_alloc ?_ _)); exact BK310.out⟩, ⟨by repeat (first | (with_reducible first | exact HB.out | apply below_alloc | apply pw_below_drewN | apply below_drew1 | refine below_set ?_ GE310.out | refine below_set ?_ GE316.out) | exact HB.out)⟩⟩
          as_aux_lemma =>
           clear HC26
           try clear c1
           try clear c2
           try clear p2
           try clear q2
           try clear c3
           try clear p3
           try clear q3
           try clear hx3
           try clear c4
           try clear c5
           try clear c6
           try clear c6b0
           try clear p6
           try clear c9
           try clear c14
           try clear c14b0
           try clear c15
           try clear c15b0
           try clear c16
           try clear c16b0
           try clear c18
           try clear c19
           try clear c19b0
           try clear c19b1
           try clear c25
           try clear c25b0
           try clear c27
           try clear c27b0
           try clear c28
           try clear c28b0
           try clear c29
           try clear q29
           try clear c30
           try clear p30
           try clear q30
           try clear hx30
           try clear p31
           try clear q31
           try clear hx31
           try clear c32
           try clear c34
           try clear c35
           try clear c38
           try clear c39
           try clear c40
           try clear hcz21_0
           try clear hcz21_1
           try clear hcz21_2
           try clear hcz21_3
           try clear hcz21_4
           try clear hcz35_0
           try clear hcz35_1
           try clear hcz35_2
           try clear hcz40_0
           try clear hcz40_1
           try clear hcz40_2
           try clear hfz21_0
           try clear hfz21_1
           try clear hfz21_2
           try clear hfz21_3
           try clear hfz21_4
           try clear hfz35_0
           try clear hfz35_1
           try clear hfz35_2
           try clear hfz40_0
           try clear hfz40_1
           try clear hfz40_2
           try clear hx309_0
           try clear hx309_1
           try clear hx309_2
           try clear hx309_3
           try clear hx309_4
           try clear hx315_0
           try clear hx315_1
           try clear hx315_2
           try clear p2
           try clear p3
           try clear p309
           try clear p315
           try clear p6
           try clear q3
           try clear q309
           try clear q315
           obtain ⟨kq, x13_25, HA, HJ25, HO_7, HO_8, HO_11, HO_13, HO_75, BK310, HB⟩ := hcut
           cases kq with
           | zero => exact absurd HA.out (by simp [darninglaw19_ImageKeeps.j3])
           | succ kj25 =>
            have H := HA.out
            clear HA
            simp only [darninglaw19_ImageKeeps.j3] at H
            as_aux_lemma =>
             have H' := Aside0.mk H
             clear H
             go_wp2
             go_roundg kj25
             case measure => have := HJ3.out; have := HK2.out; have := HK3.out; have := HJ25.out; omega
             case rel => exact ⟨(x13_25), (wrap64 (x77_3 + 1)), (by first | rfl | (simp; done) | (simp [*]; done)), H', ⟨by have := HJ3.out; have := HK2.out; have := HK3.out; have := HJ25.out; omega⟩, ⟨by (with_reducible repeat (first | apply Kd.R_alloc | apply Kd.R_drewN | apply Kd.R_drew)); exact HO_7.out⟩, ⟨by (with_reducible repeat (first | apply MR_alloc | apply MR_drewN | apply MR_drew)); exact HO_8.out⟩, ⟨by (with_reducible repeat (first | apply Kd.R_alloc | apply Kd.R_drewN | apply Kd.R_drew)); exact HO_11.out⟩, ⟨by (with_reducible repeat (first | apply Kd.R_alloc | apply Kd.R_drewN | apply Kd.R_drew)); exact HO_13.out⟩, ⟨by (with_reducible repeat (first | apply Kd.R_alloc | apply Kd.R_drewN | apply Kd.R_drew)); exact HO_75.out⟩, ⟨by (with_reducible repeat (first | refine blk_drewN ?_ _ | refine blk_drew ?_ | refine blk_alloc ?_ _)); exact BK310.out⟩, ⟨by repeat (first | (with_reducible first | exact HB.out | apply below_alloc | apply pw_below_drewN | apply below_drew1 | refine below_set ?_ GE310.out) | exact HB.out)⟩⟩
         rw [if_neg c25] at H
         have c25b0 : decide (x77_3 < (t311.length : Int)) = false := decide_eq_false c25
         clear c25
         have HC41 := Aside0.mk H
         clear H
         obtain ⟨Ao42, co42, eo42⟩ := Kd.R_slice HO_13.out
         subst eo42
         go_upto_if 91 with (fail)
         go_cut [16] (fun v16 wc => ∃ (kq : Nat) (x16_40 : Int), v16 = .int .i64 x16_40 ∧ Aside0 (darninglaw19_ImageKeeps.j4 kq (wrap64 (1 + (wrap64 (Int.tmod (IntKind.u64.wrap (a0)) 64)))) l1 x7_2 x8_2 t311 x13_3 x16_40 l2 (l2.length : Int) x57_2 ((rd_T75 l2 x57_2).f0) ((rd_T75 l2 x57_2).f1) ((rd_T75 l2 x57_2).f2) ((rd_T75 l2 x57_2).f3) ((rd_T75 l2 x57_2).f4) = some true) ∧ Aside0 (kq ≤ k3) ∧ Aside0 (Kd.R (Kd.int .u64) 28 wc w.heap.size (fun _ => True) (.slice Ao22 x7_2.length co22) x7_2) ∧ Aside0 (MR wc w.heap.size (fun _ => True) (.map (some mbH)) x8_2) ∧ Aside0 (Kd.R k35 35 wc w.heap.size (fun _ => True) (.slice Ao24 t311.length co24) t311) ∧ Aside0 (Kd.R (Kd.int .i64) 3 wc w.heap.size (fun _ => True) (.slice Ao42 x13_3.length co42) x13_3) ∧ Aside0 (wc.heap[gb310]? = some (.cells #[.int .i64 ((rd_T75 l2 x57_2).f0), .int .i64 ((rd_T75 l2 x57_2).f1), .int .i64 ((rd_T75 l2 x57_2).f2), .int .i64 ((rd_T75 l2 x57_2).f3), (.slice A309_4 ((rd_T75 l2 x57_2).f4).length c309_4)] 75 (0, 0))) ∧ Aside0 (Below w.heap.size w wc))
         case first =>
          as_aux_lemma =>
           have H := HC41.out
           clear HC41
           by_cases c43 : (x13_3.length : Int) > 0
           rotate_left
           ·
            rw [if_neg c43] at H
            have c43b0 : decide (0 < (x13_3.length : Int)) = false := decide_eq_false c43
            have c43b1 : decide (0 < x13_3.length) = false := decide_eq_false (by omega)
            clear c43
            (first | rw [c43b0] | (simp only [i64_w, i32_w]; rw [c43b0]) | rw [c43b1] | skip)
            as_aux_lemma =>
             have H' := Aside0.mk H
             clear H
             go_wp2
             go_meet
             case rel => exact ⟨_, (8), (by first | rfl | (simp; done) | (simp [*]; done)), (by first | exact H' | ((try rw [hji45]); exact H')), ⟨by have := HJ3.out; have := HK2.out; have := HK3.out; first | omega | exact Nat.le_refl _⟩, ⟨by (with_reducible repeat (first | apply Kd.R_alloc | apply Kd.R_drewN | apply Kd.R_drew)); exact HO_7.out⟩, ⟨by (with_reducible repeat (first | apply MR_alloc | apply MR_drewN | apply MR_drew)); exact HO_8.out⟩, ⟨by (with_reducible repeat (first | apply Kd.R_alloc | apply Kd.R_drewN | apply Kd.R_drew)); exact HO_11.out⟩, ⟨by (with_reducible repeat (first | apply Kd.R_alloc | apply Kd.R_drewN | apply Kd.R_drew)); exact HO_13.out⟩, ⟨by (with_reducible repeat (first | refine blk_drewN ?_ _ | refine blk_drew ?_ | refine blk_alloc ?_ _)); exact BK310.out⟩, ⟨by repeat (first | (with_reducible first | exact HB.out | apply below_alloc | apply pw_below_drewN | apply below_drew1 | refine below_set ?_ GE310.out) | exact HB.out)⟩⟩
           rw [if_pos c43] at H
           have c43b0 : decide (0 < (x13_3.length : Int)) = true := decide_eq_true c43
           have c43b1 : decide (0 < x13_3.length) = true := decide_eq_true (by omega)
           clear c43
           (first | rw [c43b0] | (simp only [i64_w, i32_w]; rw [c43b0]) | rw [c43b1] | skip)
           by_cases c44 : (IntKind.u64.wrap ((x13_3.length : Int))) = 0
           ·
            rw [if_pos c44] at H
            exact absurd H (by simp)
           rw [if_neg c44] at H
           have c44b0 : ((IntKind.u64.wrap ((x13_3.length : Int))) == 0) = false := beq_eq_false_iff_ne.mpr c44
           have c44b1 : ((IntKind.u64.wrap ((x13_3.length : Int))) != 0) = true := bne_iff_ne.mpr c44
           obtain ⟨ji45, hji45⟩ : ∃ j_ : Int, (wrap64 (Int.tmod (IntKind.u64.wrap (((rd_T75 l2 x57_2).f2))) (IntKind.u64.wrap ((x13_3.length : Int))))) = j_ := ⟨_, rfl⟩
           replace H : (if 0 ≤ (ji45) then (if (ji45) < (x13_3.length : Int) then (darninglaw19_ImageKeeps.j4 k3 (wrap64 (1 + (wrap64 (Int.tmod (IntKind.u64.wrap (a0)) 64)))) l1 x7_2 x8_2 t311 x13_3 (rd x13_3 (ji45)) l2 (l2.length : Int) x57_2 ((rd_T75 l2 x57_2).f0) ((rd_T75 l2 x57_2).f1) ((rd_T75 l2 x57_2).f2) ((rd_T75 l2 x57_2).f3) ((rd_T75 l2 x57_2).f4)) else (none)) else (none)) = some true := by first | (rw [hji45] at H; exact H) | (simp only [hji45] at H ⊢; exact H)
           have hji45w : (IntKind.i64.wrap (Int.tmod (IntKind.u64.wrap (((rd_T75 l2 x57_2).f2))) (IntKind.u64.wrap ((x13_3.length : Int))))) = ji45 := (i64_w _).trans hji45
           by_cases c46 : 0 ≤ (ji45)
           rotate_left
           ·
            rw [if_neg c46] at H
            exact absurd H (by simp)
           rw [if_pos c46] at H
           have c46b0 : decide (0 ≤ (ji45)) = true := decide_eq_true c46
           clear c46
           by_cases c47 : (ji45) < (x13_3.length : Int)
           rotate_left
           ·
            rw [if_neg c47] at H
            exact absurd H (by simp)
           rw [if_pos c47] at H
           have c47b0 : decide ((ji45) < (x13_3.length : Int)) = true := decide_eq_true c47
           clear c47
           as_aux_lemma =>
            have H' := Aside0.mk H
            clear H
            have hcz48_0 : wr.cell? ⟨gb310, 0, none⟩ = some (.int .i64 ((rd_T75 l2 x57_2).f0)) := (blk_cell BK310.out 0).trans rfl
            have hcz48_1 : wr.cell? ⟨gb310, 1, none⟩ = some (.int .i64 ((rd_T75 l2 x57_2).f1)) := (blk_cell BK310.out 1).trans rfl
            have hcz48_2 : wr.cell? ⟨gb310, 2, none⟩ = some (.int .i64 ((rd_T75 l2 x57_2).f2)) := (blk_cell BK310.out 2).trans rfl
            have hcz48_3 : wr.cell? ⟨gb310, 3, none⟩ = some (.int .i64 ((rd_T75 l2 x57_2).f3)) := (blk_cell BK310.out 3).trans rfl
            have hcz48_4 : wr.cell? ⟨gb310, 4, none⟩ = some (.slice A309_4 ((rd_T75 l2 x57_2).f4).length c309_4) := (blk_cell BK310.out 4).trans rfl
            have hfz48_0 := blk_frozen BK310.out 0
            have hfz48_1 := blk_frozen BK310.out 1
            have hfz48_2 := blk_frozen BK310.out 2
            have hfz48_3 := blk_frozen BK310.out 3
            have hfz48_4 := blk_frozen BK310.out 4
            have p321 : 0 ≤ ((ji45) : Int) := of_decide_eq_true (by first | (with_reducible assumption) | assumption)
            have q321 : (ji45) < (x13_3.length : Int) := of_decide_eq_true (by first | (with_reducible assumption) | assumption)
            obtain ⟨ad321, e321, hx321_0⟩ := Kd.at_int (Kd.R_reads' HO_13.out).2.2 (ji45) p321 q321
            cases e321
            replace p321 := eq_true p321
            replace q321 := eq_true q321
            go_wp2
            (try simp only [← hji45])
            go_meet
            case rel => exact ⟨_, (rd x13_3 (ji45)), (by first | rfl | (simp; done) | (simp only [← hji45] <;> (first | rfl | simp)) | (simp [*]; done)), (by first | exact H' | (simp only [hji45]; exact H')), ⟨by have := HJ3.out; have := HK2.out; have := HK3.out; first | omega | exact Nat.le_refl _⟩, ⟨by (with_reducible repeat (first | apply Kd.R_alloc | apply Kd.R_drewN | apply Kd.R_drew)); exact HO_7.out⟩, ⟨by (with_reducible repeat (first | apply MR_alloc | apply MR_drewN | apply MR_drew)); exact HO_8.out⟩, ⟨by (with_reducible repeat (first | apply Kd.R_alloc | apply Kd.R_drewN | apply Kd.R_drew)); exact HO_11.out⟩, ⟨by (with_reducible repeat (first | apply Kd.R_alloc | apply Kd.R_drewN | apply Kd.R_drew)); exact HO_13.out⟩, ⟨by (with_reducible repeat (first | refine blk_drewN ?_ _ | refine blk_drew ?_ | refine blk_alloc ?_ _)); exact BK310.out⟩, ⟨by repeat (first | (with_reducible first | exact HB.out | apply below_alloc | apply pw_below_drewN | apply below_drew1 | refine below_set ?_ GE310.out) | exact HB.out)⟩⟩
         as_aux_lemma =>
          clear HC41
          try clear c1
          try clear c2
          try clear p2
          try clear q2
          try clear c3
          try clear p3
          try clear q3
          try clear hx3
          try clear c4
          try clear c5
          try clear c6
          try clear c6b0
          try clear p6
          try clear c9
          try clear c14
          try clear c14b0
          try clear c15
          try clear c15b0
          try clear c16
          try clear c16b0
          try clear c18
          try clear c19
          try clear c19b0
          try clear c19b1
          try clear c25
          try clear c25b0
          try clear c27
          try clear c27b0
          try clear c28
          try clear c28b0
          try clear c29
          try clear q29
          try clear c30
          try clear p30
          try clear q30
          try clear hx30
          try clear p31
          try clear q31
          try clear hx31
          try clear c32
          try clear p32
          try clear q32
          try clear hx32
          try clear c34
          try clear c35
          try clear c38
          try clear c39
          try clear c40
          try clear c43
          try clear c43b0
          try clear c43b1
          try clear c44
          try clear c44b0
          try clear c44b1
          try clear c46
          try clear c46b0
          try clear c47
          try clear c47b0
          try clear hcz21_0
          try clear hcz21_1
          try clear hcz21_2
          try clear hcz21_3
          try clear hcz21_4
          try clear hcz35_0
          try clear hcz35_1
          try clear hcz35_2
          try clear hcz40_0
          try clear hcz40_1
          try clear hcz40_2
          try clear hcz48_0
          try clear hcz48_1
          try clear hcz48_2
          try clear hcz48_3
          try clear hcz48_4
          try clear hfz21_0
          try clear hfz21_1
          try clear hfz21_2
          try clear hfz21_3
          try clear hfz21_4
          try clear hfz35_0
          try clear hfz35_1
          try clear hfz35_2
          try clear hfz40_0
          try clear hfz40_1
          try clear hfz40_2
          try clear hfz48_0
          try clear hfz48_1
          try clear hfz48_2
          try clear hfz48_3
          try clear hfz48_4
          try clear hx309_0
          try clear hx309_1
          try clear hx309_2
          try clear hx309_3
          try clear hx309_4
          try clear hx315_0
          try clear hx315_1
          try clear hx315_2
          try clear hx321_0
          try clear p2
          try clear p3
          try clear p30
          try clear p309
          try clear p31
          try clear p315
          try clear p321
          try clear p6
          try clear q2
          try clear q29
          try clear q3
          try clear q30
          try clear q309
          try clear q31
          try clear q315
          try clear q321
          obtain ⟨kq, x16_40, rfl, HA, HJ40, HO_7, HO_8, HO_11, HO_13, BK310, HB⟩ := hcut
          cases kq with
          | zero => exact absurd HA.out (by simp [darninglaw19_ImageKeeps.j4])
          | succ kj40 =>
           have H := HA.out
           clear HA
           simp only [darninglaw19_ImageKeeps.j4] at H
           have HC49 := Aside0.mk H
           clear H
           have hcz50_0 : wc.cell? ⟨gb310, 0, none⟩ = some (.int .i64 ((rd_T75 l2 x57_2).f0)) := (blk_cell BK310.out 0).trans rfl
           have hcz50_1 : wc.cell? ⟨gb310, 1, none⟩ = some (.int .i64 ((rd_T75 l2 x57_2).f1)) := (blk_cell BK310.out 1).trans rfl
           have hcz50_2 : wc.cell? ⟨gb310, 2, none⟩ = some (.int .i64 ((rd_T75 l2 x57_2).f2)) := (blk_cell BK310.out 2).trans rfl
           have hcz50_3 : wc.cell? ⟨gb310, 3, none⟩ = some (.int .i64 ((rd_T75 l2 x57_2).f3)) := (blk_cell BK310.out 3).trans rfl
           have hcz50_4 : wc.cell? ⟨gb310, 4, none⟩ = some (.slice A309_4 ((rd_T75 l2 x57_2).f4).length c309_4) := (blk_cell BK310.out 4).trans rfl
           have hfz50_0 := blk_frozen BK310.out 0
           have hfz50_1 := blk_frozen BK310.out 1
           have hfz50_2 := blk_frozen BK310.out 2
           have hfz50_3 := blk_frozen BK310.out 3
           have hfz50_4 := blk_frozen BK310.out 4
           go_upto_block 4 with (fail)
           go_cut [7] (fun v7 wc => ∃ (kq : Nat) (x7_48 : List Int) (x8_48 : List (S122)), Aside0 (darninglaw19_ImageKeeps.j9 kq (wrap64 (1 + (wrap64 (Int.tmod (IntKind.u64.wrap (a0)) 64)))) l1 x7_48 x8_48 l2 (l2.length : Int) x57_2 = some true) ∧ Aside0 (kq ≤ kj40) ∧ Aside0 (Kd.R (Kd.int .u64) 28 wc w.heap.size (fun _ => True) v7 x7_48) ∧ Aside0 (MR wc w.heap.size (fun _ => True) (.map (some mbH)) x8_48) ∧ Aside0 (wc.heap[gb310]? = some (.cells #[.int .i64 ((rd_T75 l2 x57_2).f0), .int .i64 ((rd_T75 l2 x57_2).f1), .int .i64 ((rd_T75 l2 x57_2).f2), .int .i64 ((rd_T75 l2 x57_2).f3), (.slice A309_4 ((rd_T75 l2 x57_2).f4).length c309_4)] 75 (0, 0))) ∧ Aside0 (Below w.heap.size w wc))
           case first =>
            as_aux_lemma =>
             have H := HC49.out
             clear HC49
             by_cases c51 : ((rd_T75 l2 x57_2).f0) = 0
             ·
              rw [if_pos c51] at H
              have c51b0 : (((rd_T75 l2 x57_2).f0) == 0) = true := beq_iff_eq.mpr c51
              have c51b1 : (((rd_T75 l2 x57_2).f0) != 0) = false := bne_eq_false_iff_eq.mpr c51
              clear c51
              (first | rw [c51b0] | (simp only [i64_w, i32_w]; rw [c51b0]) | rw [c51b1] | skip)
              replace H := Option.bind_eq_some_iff.mp H
              obtain ⟨⟨t322, t323, t324⟩, A520, H⟩ := H
              replace H : ((darningref4_Need.f ((rd_T75 l2 x57_2).f1)).bind fun t327 => (if t327 > 0 then ((darningref4_MostFree.f kj40 t311).bind fun t328 => ((darningref4_Need.f ((rd_T75 l2 x57_2).f1)).bind fun t329 => (darninglaw19_ImageKeeps.j5 kj40 (wrap64 (1 + (wrap64 (Int.tmod (IntKind.u64.wrap (a0)) 64)))) l1 x7_2 x8_2 t322 t323 t324 (decide (t328 ≥ t329)) l2 (l2.length : Int) x57_2 ((rd_T75 l2 x57_2).f0) ((rd_T75 l2 x57_2).f1) ((rd_T75 l2 x57_2).f2) ((rd_T75 l2 x57_2).f3) ((rd_T75 l2 x57_2).f4)))) else (darninglaw19_ImageKeeps.j5 kj40 (wrap64 (1 + (wrap64 (Int.tmod (IntKind.u64.wrap (a0)) 64)))) l1 x7_2 x8_2 t322 t323 t324 false l2 (l2.length : Int) x57_2 ((rd_T75 l2 x57_2).f0) ((rd_T75 l2 x57_2).f1) ((rd_T75 l2 x57_2).f2) ((rd_T75 l2 x57_2).f3) ((rd_T75 l2 x57_2).f4)))) = some true := H
              have A52 := Aside0.mk A520
              clear A520
              have HC53 := Aside0.mk H
              clear H
              have hcz54_0 : wc.cell? ⟨gb310, 0, none⟩ = some (.int .i64 ((rd_T75 l2 x57_2).f0)) := (blk_cell BK310.out 0).trans rfl
              have hcz54_1 : wc.cell? ⟨gb310, 1, none⟩ = some (.int .i64 ((rd_T75 l2 x57_2).f1)) := (blk_cell BK310.out 1).trans rfl
              have hcz54_2 : wc.cell? ⟨gb310, 2, none⟩ = some (.int .i64 ((rd_T75 l2 x57_2).f2)) := (blk_cell BK310.out 2).trans rfl
              have hcz54_3 : wc.cell? ⟨gb310, 3, none⟩ = some (.int .i64 ((rd_T75 l2 x57_2).f3)) := (blk_cell BK310.out 3).trans rfl
              have hcz54_4 : wc.cell? ⟨gb310, 4, none⟩ = some (.slice A309_4 ((rd_T75 l2 x57_2).f4).length c309_4) := (blk_cell BK310.out 4).trans rfl
              have hfz54_0 := blk_frozen BK310.out 0
              have hfz54_1 := blk_frozen BK310.out 1
              have hfz54_2 := blk_frozen BK310.out 2
              have hfz54_3 := blk_frozen BK310.out 3
              have hfz54_4 := blk_frozen BK310.out 4
              go_upto_region 25 with (first | ((with_reducible refine gate_callee (f := 39) rfl ?_); refine goesL_ (some 112) rfl rfl Try.func39 (by kernel_rfl) rfl #[.slice Ao22 x7_2.length co22, .int .i64 ((rd_T75 l2 x57_2).f1), .slice A1 l1.length c1] rfl (by (try simp only [List.map_toArray, List.map_cons, List.map_nil]); first | done | rfl | (simp only [List.length_drop, List.length_take]; rfl)) ?_; (with_reducible refine (image_Alloc.calls kj40 _ _ x7_2 ((rd_T75 l2 x57_2).f1) _ _ l1 t322 t323 t324 _ ?side1 ?side2 ?side3 ?side4 A52.out).mono ?_); (case side1 => repeat (first | exact (Kd.R_reads' HO_7.out).2.2 | (with_reducible refine Kd.C_alloc ?_ _) | (with_reducible refine Kd.C_drewN ?_ _) | (with_reducible refine Kd.C_drew ?_))); (case side2 => exact (Kd.R_reads' HO_7.out).2.1); (case side3 => repeat (first | exact (Kd.C_below HR1.out HB.out) | (with_reducible refine Kd.C_alloc ?_ _) | (with_reducible refine Kd.C_drewN ?_ _) | (with_reducible refine Kd.C_drew ?_))); (case side4 => exact HC1.out); rintro e w55 ⟨v325, rfl, ho0, hb⟩; refine ⟨_, rfl, ?_⟩; have n0_ := Aside0.mk (Kd.R_below (by (with_reducible repeat (first | apply Kd.R_alloc | apply Kd.R_drewN | apply Kd.R_drew)); exact HO_7.out) hb); have n1_ := Aside0.mk (MR_below (by (with_reducible repeat (first | apply MR_alloc | apply MR_drewN | apply MR_drew)); exact HO_8.out) hb); have n2_ := Aside0.mk (Kd.R_below (by (with_reducible repeat (first | apply Kd.R_alloc | apply Kd.R_drewN | apply Kd.R_drew)); exact HO_11.out) hb); have n3_ := Aside0.mk (Kd.R_below (by (with_reducible repeat (first | apply Kd.R_alloc | apply Kd.R_drewN | apply Kd.R_drew)); exact HO_13.out) hb); have n4_ := Aside0.mk (Kd.R_lower ho0 (below_size (by repeat (first | (with_reducible first | exact HB.out | apply below_alloc | apply pw_below_drewN | apply below_drew1 | refine below_set ?_ GE310.out) | exact HB.out)))); have n5_ := Aside0.mk (blk_below (g := gb310) (o := .cells #[.int .i64 ((rd_T75 l2 x57_2).f0), .int .i64 ((rd_T75 l2 x57_2).f1), .int .i64 ((rd_T75 l2 x57_2).f2), .int .i64 ((rd_T75 l2 x57_2).f3), .slice A309_4 ((rd_T75 l2 x57_2).f4).length c309_4] 75 (0, 0)) (by (with_reducible repeat (first | refine blk_drewN ?_ _ | refine blk_drew ?_ | refine blk_alloc ?_ _)); exact BK310.out) hb); have n6_ := Aside0.mk (below_step (by repeat (first | (with_reducible first | exact HB.out | apply below_alloc | apply pw_below_drewN | apply below_drew1 | refine below_set ?_ GE310.out) | exact HB.out)) hb); clear HO_7; clear HO_8; clear HO_11; clear HO_13; clear BK310; clear HB; have HO_7 := n0_; have HO_8 := n1_; have HO_11 := n2_; have HO_13 := n3_; have HO326 := n4_; have BK310 := n5_; have HB := n6_; clear n0_ n1_ n2_ n3_ n4_ n5_ n6_; (try clear hb); (try clear hb2); (try clear hk); (try clear hi); (try clear ho0)))
              (try simp only [Act.put, List.setIfInBounds_toArray, List.set_cons_zero, List.set_cons_succ])
              go_cut [20] (fun v20 wc => ∃ (kq : Nat) (x20_52 : Bool), v20 = .bool x20_52 ∧ Aside0 (darninglaw19_ImageKeeps.j5 kq (wrap64 (1 + (wrap64 (Int.tmod (IntKind.u64.wrap (a0)) 64)))) l1 x7_2 x8_2 t322 t323 t324 x20_52 l2 (l2.length : Int) x57_2 ((rd_T75 l2 x57_2).f0) ((rd_T75 l2 x57_2).f1) ((rd_T75 l2 x57_2).f2) ((rd_T75 l2 x57_2).f3) ((rd_T75 l2 x57_2).f4) = some true) ∧ Aside0 (kq ≤ kj40) ∧ Aside0 (Kd.R (Kd.int .u64) 28 wc w.heap.size (fun _ => True) (.slice Ao22 x7_2.length co22) x7_2) ∧ Aside0 (MR wc w.heap.size (fun _ => True) (.map (some mbH)) x8_2) ∧ Aside0 (Kd.R k30 30 wc w.heap.size (fun _ => True) v325 t322) ∧ Aside0 (wc.heap[gb310]? = some (.cells #[.int .i64 ((rd_T75 l2 x57_2).f0), .int .i64 ((rd_T75 l2 x57_2).f1), .int .i64 ((rd_T75 l2 x57_2).f2), .int .i64 ((rd_T75 l2 x57_2).f3), (.slice A309_4 ((rd_T75 l2 x57_2).f4).length c309_4)] 75 (0, 0))) ∧ Aside0 (Below w.heap.size w wc))
              case first =>
               as_aux_lemma =>
                have H := HC53.out
                clear HC53
                replace H := Option.bind_eq_some_iff.mp H
                obtain ⟨t327, A560, H⟩ := H
                replace H : (if t327 > 0 then ((darningref4_MostFree.f kj40 t311).bind fun t328 => ((darningref4_Need.f ((rd_T75 l2 x57_2).f1)).bind fun t329 => (darninglaw19_ImageKeeps.j5 kj40 (wrap64 (1 + (wrap64 (Int.tmod (IntKind.u64.wrap (a0)) 64)))) l1 x7_2 x8_2 t322 t323 t324 (decide (t328 ≥ t329)) l2 (l2.length : Int) x57_2 ((rd_T75 l2 x57_2).f0) ((rd_T75 l2 x57_2).f1) ((rd_T75 l2 x57_2).f2) ((rd_T75 l2 x57_2).f3) ((rd_T75 l2 x57_2).f4)))) else (darninglaw19_ImageKeeps.j5 kj40 (wrap64 (1 + (wrap64 (Int.tmod (IntKind.u64.wrap (a0)) 64)))) l1 x7_2 x8_2 t322 t323 t324 false l2 (l2.length : Int) x57_2 ((rd_T75 l2 x57_2).f0) ((rd_T75 l2 x57_2).f1) ((rd_T75 l2 x57_2).f2) ((rd_T75 l2 x57_2).f3) ((rd_T75 l2 x57_2).f4))) = some true := H
                have A56 := Aside0.mk A560
                clear A560
                by_cases c57 : t327 > 0
                rotate_left
                ·
                 rw [if_neg c57] at H
                 have c57b0 : decide (0 < t327) = false := decide_eq_false c57
                 clear c57
                 (first | rw [c57b0] | (simp only [i64_w, i32_w]; rw [c57b0]) | skip)
                 as_aux_lemma =>
                  have H' := Aside0.mk H
                  clear H
                  try go_wp2
                  have n0_ := Aside0.mk (Kd.R_drew HO_7.out)
                  have n1_ := Aside0.mk (MR_drew HO_8.out)
                  have n2_ := Aside0.mk (Kd.R_drew HO_11.out)
                  have n3_ := Aside0.mk (Kd.R_drew HO_13.out)
                  have n4_ := Aside0.mk (Kd.R_drew HO326.out)
                  have n5_ := Aside0.mk (blk_drew BK310.out)
                  have n6_ := Aside0.mk (below_drew1 HB.out)
                  clear HO_7
                  clear HO_8
                  clear HO_11
                  clear HO_13
                  clear HO326
                  clear BK310
                  clear HB
                  have HO_7 := n0_
                  have HO_8 := n1_
                  have HO_11 := n2_
                  have HO_13 := n3_
                  have HO326 := n4_
                  have BK310 := n5_
                  have HB := n6_
                  clear n0_ n1_ n2_ n3_ n4_ n5_ n6_
                  refine start_ (n := 13) (S := fun w' => w'.cell? ⟨gb310, 0, none⟩ = some (.int .i64 ((rd_T75 l2 x57_2).f0)) ∧ w'.cell? ⟨gb310, 1, none⟩ = some (.int .i64 ((rd_T75 l2 x57_2).f1)) ∧ w'.cell? ⟨gb310, 2, none⟩ = some (.int .i64 ((rd_T75 l2 x57_2).f2)) ∧ w'.cell? ⟨gb310, 3, none⟩ = some (.int .i64 ((rd_T75 l2 x57_2).f3)) ∧ w'.cell? ⟨gb310, 4, none⟩ = some (.slice A309_4 ((rd_T75 l2 x57_2).f4).length c309_4)) (ds := []) (onA 13 0) (by kernel_rfl) rfl rfl ⟨(blk_cell BK310.out 0).trans rfl, (blk_cell BK310.out 1).trans rfl, (blk_cell BK310.out 2).trans rfl, (blk_cell BK310.out 3).trans rfl, (blk_cell BK310.out 4).trans rfl⟩ (fun hHeld => ?_); refine with_tabW darninglaw19_ImageKeeps.tab25 darninglaw19_ImageKeeps.bits25 (fun HT_ HW_ => ?_)
                  generalize w55.drew = w62 at HO_7 HO_8 HO_11 HO_13 HO326 BK310 HB hHeld ⊢
                  refine pure_ (i := 0) (N := some 116) (v := ?_) (a' := ?_) (onA 13 1) rfl rfl (any_of HT_.out (by kernel_rfl)) (fun _ _ _ h => h) (Or.inl ⟨by rfl, ?_⟩) ?_ ?_
                  rotate_left
                  ·
                   intro w'
                   go_simp
                   with_reducible rfl
                  rotate_left
                  ·
                   simp only [Act.put, List.setIfInBounds_toArray, List.set_cons_zero, List.set_cons_succ, i64_w, i32_w]
                   rfl
                  refine take_ (i := 1) (N := some 117) (v := ?_) (a' := ?_) (onA 13 2) rfl rfl (take_ofW HT_.out HW_.out (by kernel_rfl)) (fun _ _ _ h => h) (Or.inl ⟨by rfl, ?_⟩) hHeld ?_ ?_
                  rotate_left
                  ·
                   rintro w' ⟨s0, s1, s2, s3, s4⟩
                   go_simp
                   with_reducible rfl
                  rotate_left
                  ·
                   simp only [Act.put, List.setIfInBounds_toArray, List.set_cons_zero, List.set_cons_succ, i64_w, i32_w]
                   rfl
                  refine one_ (i := 2) (N := some 118) (onA 13 3) rfl rfl (one_of HT_.out (by kernel_rfl)) (by decide) (fun K hK => ?_)
                  refine goes_ Try.func41 (by kernel_rfl) rfl #[.int .i64 ((rd_T75 l2 x57_2).f1)] (by rfl) rfl rfl (by (try simp only [List.map_toArray, List.map_cons, List.map_nil]); first | done | rfl | (simp only [List.length_drop, List.length_take]; rfl)) ?_
                  with_reducible refine (darningref4_Need.calls ((rd_T75 l2 x57_2).f1) t327 _ A56.out).mono ?_
                  rintro e w' ⟨rfl, ⟨nd, rfl⟩⟩
                  refine ⟨_, rfl, ?_⟩
                  refine hK.out _ _ ⟨(blk_cell BK310.out 0).trans rfl, (blk_cell BK310.out 1).trans rfl, (blk_cell BK310.out 2).trans rfl, (blk_cell BK310.out 3).trans rfl, (blk_cell BK310.out 4).trans rfl⟩ (fun hHeld => ?_)
                  clear hK K
                  refine norm_ (a' := ?_) ?_ ?_
                  rotate_left
                  ·
                   show Act.put _ (some 118) _ = _
                   simp only [Act.put, List.setIfInBounds_toArray, List.set_cons_zero, List.set_cons_succ, i64_w, i32_w]
                   rfl
                  refine pure_ (i := 3) (N := some 119) (v := ?_) (a' := ?_) (onA 13 4) rfl rfl (any_of HT_.out (by kernel_rfl)) (fun _ _ _ h => h) (Or.inl ⟨by rfl, ?_⟩) ?_ ?_
                  rotate_left
                  ·
                   intro w'
                   go_simp
                   with_reducible rfl
                  rotate_left
                  ·
                   simp only [Act.put, List.setIfInBounds_toArray, List.set_cons_zero, List.set_cons_succ, i64_w, i32_w]
                   rfl
                  refine pure_ (i := 4) (N := some 120) (v := ?_) (a' := ?_) (onA 13 5) rfl rfl (any_of HT_.out (by kernel_rfl)) (fun _ _ _ h => h) (Or.inl ⟨by rfl, ?_⟩) ?_ ?_
                  rotate_left
                  ·
                   intro w'
                   go_simp
                   with_reducible rfl
                  rotate_left
                  ·
                   simp only [Act.put, List.setIfInBounds_toArray, List.set_cons_zero, List.set_cons_succ, i64_w, i32_w]
                   rfl
                  refine pure_ (i := 5) (N := some 121) (v := undef) (a' := ?_) (onA 13 6) rfl rfl (any_of HT_.out (by kernel_rfl)) (fun _ _ _ h => h) (Or.inr ⟨by rfl, rfl⟩) ?_ ?_
                  rotate_left
                  ·
                   simp only [Act.put, List.setIfInBounds_toArray, List.set_cons_zero, List.set_cons_succ, i64_w, i32_w]
                   rfl
                  refine pure_ (i := 6) (N := some 122) (v := undef) (a' := ?_) (onA 13 7) rfl rfl (any_of HT_.out (by kernel_rfl)) (fun _ _ _ h => h) (Or.inr ⟨by rfl, rfl⟩) ?_ ?_
                  rotate_left
                  ·
                   simp only [Act.put, List.setIfInBounds_toArray, List.set_cons_zero, List.set_cons_succ, i64_w, i32_w]
                   rfl
                  refine pure_ (i := 7) (N := some 123) (v := undef) (a' := ?_) (onA 13 8) rfl rfl (any_of HT_.out (by kernel_rfl)) (fun _ _ _ h => h) (Or.inr ⟨by rfl, rfl⟩) ?_ ?_
                  rotate_left
                  ·
                   simp only [Act.put, List.setIfInBounds_toArray, List.set_cons_zero, List.set_cons_succ, i64_w, i32_w]
                   rfl
                  refine pure_ (i := 8) (N := some 124) (v := undef) (a' := ?_) (onA 13 9) rfl rfl (any_of HT_.out (by kernel_rfl)) (fun _ _ _ h => h) (Or.inr ⟨by rfl, rfl⟩) ?_ ?_
                  rotate_left
                  ·
                   simp only [Act.put, List.setIfInBounds_toArray, List.set_cons_zero, List.set_cons_succ, i64_w, i32_w]
                   rfl
                  refine pure_ (i := 9) (N := some 125) (v := undef) (a' := ?_) (onA 13 10) rfl rfl (any_of HT_.out (by kernel_rfl)) (fun _ _ _ h => h) (Or.inr ⟨by rfl, rfl⟩) ?_ ?_
                  rotate_left
                  ·
                   simp only [Act.put, List.setIfInBounds_toArray, List.set_cons_zero, List.set_cons_succ, i64_w, i32_w]
                   rfl
                  refine pure_ (i := 10) (N := some 126) (v := undef) (a' := ?_) (onA 13 11) rfl rfl (any_of HT_.out (by kernel_rfl)) (fun _ _ _ h => h) (Or.inr ⟨by rfl, rfl⟩) ?_ ?_
                  rotate_left
                  ·
                   simp only [Act.put, List.setIfInBounds_toArray, List.set_cons_zero, List.set_cons_succ, i64_w, i32_w]
                   rfl
                  refine pure_ (i := 11) (N := some 127) (v := ?_) (a' := ?_) (onA 13 12) rfl rfl (any_of HT_.out (by kernel_rfl)) (fun _ _ _ h => h) (Or.inl ⟨by rfl, ?_⟩) ?_ ?_
                  rotate_left
                  ·
                   intro w'
                   go_simp
                   with_reducible rfl
                  rotate_left
                  ·
                   simp only [Act.put, List.setIfInBounds_toArray, List.set_cons_zero, List.set_cons_succ, i64_w, i32_w]
                   rfl
                  refine pure_ (i := 12) (N := some 20) (v := ?_) (a' := ?_) (onA 13 13) rfl rfl (any_of HT_.out (by kernel_rfl)) (fun _ _ _ h => h) (Or.inl ⟨by rfl, ?_⟩) ?_ ?_
                  rotate_left
                  ·
                   intro w'
                   go_simp
                   with_reducible rfl
                  rotate_left
                  ·
                   simp only [Act.put, List.setIfInBounds_toArray, List.set_cons_zero, List.set_cons_succ, i64_w, i32_w]
                   rfl
                  refine done_ (done_of HT_.out (by kernel_rfl)) ?_
                  try go_wp2
                  go_meet
                  case rel => exact ⟨_, (false), (by first | rfl | (simp; done) | (simp [*]; done)), (by first | exact H' | ((try rw [hji45]); exact H')), ⟨by have := HJ3.out; have := HK2.out; have := HK3.out; have := HJ40.out; first | omega | exact Nat.le_refl _⟩, ⟨by (with_reducible repeat (first | apply Kd.R_alloc | apply Kd.R_drewN | apply Kd.R_drew)); exact HO_7.out⟩, ⟨by (with_reducible repeat (first | apply MR_alloc | apply MR_drewN | apply MR_drew)); exact HO_8.out⟩, ⟨by (with_reducible repeat (first | apply Kd.R_alloc | apply Kd.R_drewN | apply Kd.R_drew)); exact HO326.out⟩, ⟨by (with_reducible repeat (first | refine blk_drewN ?_ _ | refine blk_drew ?_ | refine blk_alloc ?_ _)); exact BK310.out⟩, ⟨by repeat (first | (with_reducible first | exact HB.out | apply below_alloc | apply pw_below_drewN | apply below_drew1 | refine below_set ?_ GE310.out) | exact HB.out)⟩⟩
                rw [if_pos c57] at H
                have c57b0 : decide (0 < t327) = true := decide_eq_true c57
                clear c57
                (first | rw [c57b0] | (simp only [i64_w, i32_w]; rw [c57b0]) | skip)
                replace H := Option.bind_eq_some_iff.mp H
                obtain ⟨t328, A580, H⟩ := H
                replace H : ((darningref4_Need.f ((rd_T75 l2 x57_2).f1)).bind fun t329 => (darninglaw19_ImageKeeps.j5 kj40 (wrap64 (1 + (wrap64 (Int.tmod (IntKind.u64.wrap (a0)) 64)))) l1 x7_2 x8_2 t322 t323 t324 (decide (t328 ≥ t329)) l2 (l2.length : Int) x57_2 ((rd_T75 l2 x57_2).f0) ((rd_T75 l2 x57_2).f1) ((rd_T75 l2 x57_2).f2) ((rd_T75 l2 x57_2).f3) ((rd_T75 l2 x57_2).f4))) = some true := H
                have A58 := Aside0.mk A580
                clear A580
                replace H := Option.bind_eq_some_iff.mp H
                obtain ⟨t329, A590, H⟩ := H
                replace H : (darninglaw19_ImageKeeps.j5 kj40 (wrap64 (1 + (wrap64 (Int.tmod (IntKind.u64.wrap (a0)) 64)))) l1 x7_2 x8_2 t322 t323 t324 (decide (t328 ≥ t329)) l2 (l2.length : Int) x57_2 ((rd_T75 l2 x57_2).f0) ((rd_T75 l2 x57_2).f1) ((rd_T75 l2 x57_2).f2) ((rd_T75 l2 x57_2).f3) ((rd_T75 l2 x57_2).f4)) = some true := H
                have A59 := Aside0.mk A590
                clear A590
                as_aux_lemma =>
                 have H' := Aside0.mk H
                 clear H
                 try go_wp2
                 have n0_ := Aside0.mk (Kd.R_drew HO_7.out)
                 have n1_ := Aside0.mk (MR_drew HO_8.out)
                 have n2_ := Aside0.mk (Kd.R_drew HO_11.out)
                 have n3_ := Aside0.mk (Kd.R_drew HO_13.out)
                 have n4_ := Aside0.mk (Kd.R_drew HO326.out)
                 have n5_ := Aside0.mk (blk_drew BK310.out)
                 have n6_ := Aside0.mk (below_drew1 HB.out)
                 clear HO_7
                 clear HO_8
                 clear HO_11
                 clear HO_13
                 clear HO326
                 clear BK310
                 clear HB
                 have HO_7 := n0_
                 have HO_8 := n1_
                 have HO_11 := n2_
                 have HO_13 := n3_
                 have HO326 := n4_
                 have BK310 := n5_
                 have HB := n6_
                 clear n0_ n1_ n2_ n3_ n4_ n5_ n6_
                 refine start_ (n := 13) (S := fun w' => w'.cell? ⟨gb310, 0, none⟩ = some (.int .i64 ((rd_T75 l2 x57_2).f0)) ∧ w'.cell? ⟨gb310, 1, none⟩ = some (.int .i64 ((rd_T75 l2 x57_2).f1)) ∧ w'.cell? ⟨gb310, 2, none⟩ = some (.int .i64 ((rd_T75 l2 x57_2).f2)) ∧ w'.cell? ⟨gb310, 3, none⟩ = some (.int .i64 ((rd_T75 l2 x57_2).f3)) ∧ w'.cell? ⟨gb310, 4, none⟩ = some (.slice A309_4 ((rd_T75 l2 x57_2).f4).length c309_4)) (ds := []) (onA 13 0) (by kernel_rfl) rfl rfl ⟨(blk_cell BK310.out 0).trans rfl, (blk_cell BK310.out 1).trans rfl, (blk_cell BK310.out 2).trans rfl, (blk_cell BK310.out 3).trans rfl, (blk_cell BK310.out 4).trans rfl⟩ (fun hHeld => ?_); refine with_tabW darninglaw19_ImageKeeps.tab25 darninglaw19_ImageKeeps.bits25 (fun HT_ HW_ => ?_)
                 generalize w55.drew = w60 at HO_7 HO_8 HO_11 HO_13 HO326 BK310 HB hHeld ⊢
                 refine pure_ (i := 0) (N := some 116) (v := ?_) (a' := ?_) (onA 13 1) rfl rfl (any_of HT_.out (by kernel_rfl)) (fun _ _ _ h => h) (Or.inl ⟨by rfl, ?_⟩) ?_ ?_
                 rotate_left
                 ·
                  intro w'
                  go_simp
                  with_reducible rfl
                 rotate_left
                 ·
                  simp only [Act.put, List.setIfInBounds_toArray, List.set_cons_zero, List.set_cons_succ, i64_w, i32_w]
                  rfl
                 refine take_ (i := 1) (N := some 117) (v := ?_) (a' := ?_) (onA 13 2) rfl rfl (take_ofW HT_.out HW_.out (by kernel_rfl)) (fun _ _ _ h => h) (Or.inl ⟨by rfl, ?_⟩) hHeld ?_ ?_
                 rotate_left
                 ·
                  rintro w' ⟨s0, s1, s2, s3, s4⟩
                  go_simp
                  with_reducible rfl
                 rotate_left
                 ·
                  simp only [Act.put, List.setIfInBounds_toArray, List.set_cons_zero, List.set_cons_succ, i64_w, i32_w]
                  rfl
                 refine one_ (i := 2) (N := some 118) (onA 13 3) rfl rfl (one_of HT_.out (by kernel_rfl)) (by decide) (fun K hK => ?_)
                 refine goes_ Try.func41 (by kernel_rfl) rfl #[.int .i64 ((rd_T75 l2 x57_2).f1)] (by rfl) rfl rfl (by (try simp only [List.map_toArray, List.map_cons, List.map_nil]); first | done | rfl | (simp only [List.length_drop, List.length_take]; rfl)) ?_
                 with_reducible refine (darningref4_Need.calls ((rd_T75 l2 x57_2).f1) t327 _ A56.out).mono ?_
                 rintro e w' ⟨rfl, ⟨nd, rfl⟩⟩
                 refine ⟨_, rfl, ?_⟩
                 refine hK.out _ _ ⟨(blk_cell BK310.out 0).trans rfl, (blk_cell BK310.out 1).trans rfl, (blk_cell BK310.out 2).trans rfl, (blk_cell BK310.out 3).trans rfl, (blk_cell BK310.out 4).trans rfl⟩ (fun hHeld => ?_)
                 clear hK K
                 refine norm_ (a' := ?_) ?_ ?_
                 rotate_left
                 ·
                  show Act.put _ (some 118) _ = _
                  simp only [Act.put, List.setIfInBounds_toArray, List.set_cons_zero, List.set_cons_succ, i64_w, i32_w]
                  rfl
                 refine pure_ (i := 3) (N := some 119) (v := ?_) (a' := ?_) (onA 13 4) rfl rfl (any_of HT_.out (by kernel_rfl)) (fun _ _ _ h => h) (Or.inl ⟨by rfl, ?_⟩) ?_ ?_
                 rotate_left
                 ·
                  intro w'
                  go_simp
                  with_reducible rfl
                 rotate_left
                 ·
                  simp only [Act.put, List.setIfInBounds_toArray, List.set_cons_zero, List.set_cons_succ, i64_w, i32_w]
                  rfl
                 refine pure_ (i := 4) (N := some 120) (v := ?_) (a' := ?_) (onA 13 5) rfl rfl (any_of HT_.out (by kernel_rfl)) (fun _ _ _ h => h) (Or.inl ⟨by rfl, ?_⟩) ?_ ?_
                 rotate_left
                 ·
                  intro w'
                  go_simp
                  with_reducible rfl
                 rotate_left
                 ·
                  simp only [Act.put, List.setIfInBounds_toArray, List.set_cons_zero, List.set_cons_succ, i64_w, i32_w]
                  rfl
                 refine pure_ (i := 5) (N := some 121) (v := ?_) (a' := ?_) (onA 13 6) rfl rfl (any_of HT_.out (by kernel_rfl)) (fun _ _ _ h => h) (Or.inl ⟨by rfl, ?_⟩) ?_ ?_
                 rotate_left
                 ·
                  intro w'
                  go_simp
                  with_reducible rfl
                 rotate_left
                 ·
                  simp only [Act.put, List.setIfInBounds_toArray, List.set_cons_zero, List.set_cons_succ, i64_w, i32_w]
                  rfl
                 refine pure_ (i := 7) (N := some 123) (v := ?_) (a' := ?_) #[tt_, tt_, tt_, tt_, tt_, tt_, ff_, tt_, ff_, ff_, ff_, ff_, ff_] rfl rfl (any_of HT_.out (by kernel_rfl)) (fun _ _ _ h => h) (Or.inl ⟨by rfl, ?_⟩) ?_ ?_
                 rotate_left
                 ·
                  intro w'
                  go_simp
                  with_reducible rfl
                 rotate_left
                 ·
                  simp only [Act.put, List.setIfInBounds_toArray, List.set_cons_zero, List.set_cons_succ, i64_w, i32_w]
                  rfl
                 refine take_ (i := 8) (N := some 124) (v := ?_) (a' := ?_) #[tt_, tt_, tt_, tt_, tt_, tt_, ff_, tt_, tt_, ff_, ff_, ff_, ff_] rfl rfl (take_ofW HT_.out HW_.out (by kernel_rfl)) (fun _ _ _ h => h) (Or.inl ⟨by rfl, ?_⟩) hHeld ?_ ?_
                 rotate_left
                 ·
                  rintro w' ⟨s0, s1, s2, s3, s4⟩
                  go_simp
                  with_reducible rfl
                 rotate_left
                 ·
                  simp only [Act.put, List.setIfInBounds_toArray, List.set_cons_zero, List.set_cons_succ, i64_w, i32_w]
                  rfl
                 refine one_ (i := 6) (N := some 122) (onA 13 9) rfl rfl (one_of HT_.out (by kernel_rfl)) (by decide) (fun K hK => ?_)
                 refine goes_ Try.func56 (by kernel_rfl) rfl #[.slice Ao24 t311.length co24] (by rfl) rfl rfl (by (try simp only [List.map_toArray, List.map_cons, List.map_nil]); first | done | rfl | (simp only [List.length_drop, List.length_take]; rfl)) ?_
                 with_reducible refine (darningref4_MostFree.calls kj40 _ _ t311 t328 _ ?side1 ?side2 A58.out).mono ?_
                 (case side1 => repeat (first | exact (Kd.R_reads' HO_11.out).2.2 | (with_reducible refine Kd.C_alloc ?_ _) | (with_reducible refine Kd.C_drewN ?_ _) | (with_reducible refine Kd.C_drew ?_)))
                 (case side2 => exact (Kd.R_reads' HO_11.out).2.1)
                 rintro e w61 ⟨rfl, hb⟩
                 refine ⟨_, rfl, ?_⟩
                 have n0_ := Aside0.mk (Kd.R_below (by (with_reducible repeat (first | apply Kd.R_alloc | apply Kd.R_drewN | apply Kd.R_drew)); exact HO_7.out) hb)
                 have n1_ := Aside0.mk (MR_below (by (with_reducible repeat (first | apply MR_alloc | apply MR_drewN | apply MR_drew)); exact HO_8.out) hb)
                 have n2_ := Aside0.mk (Kd.R_below (by (with_reducible repeat (first | apply Kd.R_alloc | apply Kd.R_drewN | apply Kd.R_drew)); exact HO_11.out) hb)
                 have n3_ := Aside0.mk (Kd.R_below (by (with_reducible repeat (first | apply Kd.R_alloc | apply Kd.R_drewN | apply Kd.R_drew)); exact HO_13.out) hb)
                 have n4_ := Aside0.mk (Kd.R_below (by (with_reducible repeat (first | apply Kd.R_alloc | apply Kd.R_drewN | apply Kd.R_drew)); exact HO326.out) hb)
                 have n5_ := Aside0.mk (blk_below (g := gb310) (o := .cells #[.int .i64 ((rd_T75 l2 x57_2).f0), .int .i64 ((rd_T75 l2 x57_2).f1), .int .i64 ((rd_T75 l2 x57_2).f2), .int .i64 ((rd_T75 l2 x57_2).f3), .slice A309_4 ((rd_T75 l2 x57_2).f4).length c309_4] 75 (0, 0)) (by (with_reducible repeat (first | refine blk_drewN ?_ _ | refine blk_drew ?_ | refine blk_alloc ?_ _)); exact BK310.out) hb)
                 have n6_ := Aside0.mk (below_step (by repeat (first | (with_reducible first | exact HB.out | apply below_alloc | apply pw_below_drewN | apply below_drew1 | refine below_set ?_ GE310.out) | exact HB.out)) hb)
                 clear HO_7
                 clear HO_8
                 clear HO_11
                 clear HO_13
                 clear HO326
                 clear BK310
                 clear HB
                 have HO_7 := n0_
                 have HO_8 := n1_
                 have HO_11 := n2_
                 have HO_13 := n3_
                 have HO326 := n4_
                 have BK310 := n5_
                 have HB := n6_
                 clear n0_ n1_ n2_ n3_ n4_ n5_ n6_
                 (try clear hb)
                 (try clear hb2)
                 (try clear hk)
                 (try clear hi)
                 refine hK.out _ _ ⟨(blk_cell BK310.out 0).trans rfl, (blk_cell BK310.out 1).trans rfl, (blk_cell BK310.out 2).trans rfl, (blk_cell BK310.out 3).trans rfl, (blk_cell BK310.out 4).trans rfl⟩ (fun hHeld => ?_)
                 clear hK K
                 refine norm_ (a' := ?_) ?_ ?_
                 rotate_left
                 ·
                  show Act.put _ (some 122) _ = _
                  simp only [Act.put, List.setIfInBounds_toArray, List.set_cons_zero, List.set_cons_succ, i64_w, i32_w]
                  rfl
                 refine one_ (i := 9) (N := some 125) (onA 13 10) rfl rfl (one_of HT_.out (by kernel_rfl)) (by decide) (fun K hK => ?_)
                 refine goes_ Try.func41 (by kernel_rfl) rfl #[.int .i64 ((rd_T75 l2 x57_2).f1)] (by rfl) rfl rfl (by (try simp only [List.map_toArray, List.map_cons, List.map_nil]); first | done | rfl | (simp only [List.length_drop, List.length_take]; rfl)) ?_
                 with_reducible refine (darningref4_Need.calls ((rd_T75 l2 x57_2).f1) t329 _ A59.out).mono ?_
                 rintro e w' ⟨rfl, ⟨nd, rfl⟩⟩
                 refine ⟨_, rfl, ?_⟩
                 refine hK.out _ _ ⟨(blk_cell BK310.out 0).trans rfl, (blk_cell BK310.out 1).trans rfl, (blk_cell BK310.out 2).trans rfl, (blk_cell BK310.out 3).trans rfl, (blk_cell BK310.out 4).trans rfl⟩ (fun hHeld => ?_)
                 clear hK K
                 refine norm_ (a' := ?_) ?_ ?_
                 rotate_left
                 ·
                  show Act.put _ (some 125) _ = _
                  simp only [Act.put, List.setIfInBounds_toArray, List.set_cons_zero, List.set_cons_succ, i64_w, i32_w]
                  rfl
                 refine pure_ (i := 10) (N := some 126) (v := ?_) (a' := ?_) (onA 13 11) rfl rfl (any_of HT_.out (by kernel_rfl)) (fun _ _ _ h => h) (Or.inl ⟨by rfl, ?_⟩) ?_ ?_
                 rotate_left
                 ·
                  intro w'
                  go_simp
                  with_reducible rfl
                 rotate_left
                 ·
                  simp only [Act.put, List.setIfInBounds_toArray, List.set_cons_zero, List.set_cons_succ, i64_w, i32_w]
                  rfl
                 refine pure_ (i := 11) (N := some 127) (v := ?_) (a' := ?_) (onA 13 12) rfl rfl (any_of HT_.out (by kernel_rfl)) (fun _ _ _ h => h) (Or.inl ⟨by rfl, ?_⟩) ?_ ?_
                 rotate_left
                 ·
                  intro w'
                  go_simp
                  with_reducible rfl
                 rotate_left
                 ·
                  simp only [Act.put, List.setIfInBounds_toArray, List.set_cons_zero, List.set_cons_succ, i64_w, i32_w]
                  rfl
                 refine pure_ (i := 12) (N := some 20) (v := ?_) (a' := ?_) (onA 13 13) rfl rfl (any_of HT_.out (by kernel_rfl)) (fun _ _ _ h => h) (Or.inl ⟨by rfl, ?_⟩) ?_ ?_
                 rotate_left
                 ·
                  intro w'
                  go_simp
                  with_reducible rfl
                 rotate_left
                 ·
                  simp only [Act.put, List.setIfInBounds_toArray, List.set_cons_zero, List.set_cons_succ, i64_w, i32_w]
                  rfl
                 refine done_ (done_of HT_.out (by kernel_rfl)) ?_
                 try go_wp2
                 go_meet
                 case rel => exact ⟨_, (decide (t328 ≥ t329)), (by first | rfl | (simp; done) | (simp [*]; done)), (by first | exact H' | ((try rw [hji45]); exact H')), ⟨by have := HJ3.out; have := HK2.out; have := HK3.out; have := HJ40.out; first | omega | exact Nat.le_refl _⟩, ⟨by (with_reducible repeat (first | apply Kd.R_alloc | apply Kd.R_drewN | apply Kd.R_drew)); exact HO_7.out⟩, ⟨by (with_reducible repeat (first | apply MR_alloc | apply MR_drewN | apply MR_drew)); exact HO_8.out⟩, ⟨by (with_reducible repeat (first | apply Kd.R_alloc | apply Kd.R_drewN | apply Kd.R_drew)); exact HO326.out⟩, ⟨by (with_reducible repeat (first | refine blk_drewN ?_ _ | refine blk_drew ?_ | refine blk_alloc ?_ _)); exact BK310.out⟩, ⟨by repeat (first | (with_reducible first | exact HB.out | apply below_alloc | apply pw_below_drewN | apply below_drew1 | refine below_set ?_ GE310.out) | exact HB.out)⟩⟩
              as_aux_lemma =>
               clear HC53
               try clear c1
               try clear c2
               try clear p2
               try clear q2
               try clear c3
               try clear p3
               try clear q3
               try clear hx3
               try clear c4
               try clear c5
               try clear c6
               try clear c6b0
               try clear p6
               try clear c9
               try clear c14
               try clear c14b0
               try clear c15
               try clear c15b0
               try clear c16
               try clear c16b0
               try clear c18
               try clear c19
               try clear c19b0
               try clear c19b1
               try clear c25
               try clear c25b0
               try clear c27
               try clear c27b0
               try clear c28
               try clear c28b0
               try clear c29
               try clear q29
               try clear c30
               try clear p30
               try clear q30
               try clear hx30
               try clear p31
               try clear q31
               try clear hx31
               try clear c32
               try clear p32
               try clear q32
               try clear hx32
               try clear c34
               try clear c35
               try clear c38
               try clear c39
               try clear c40
               try clear c41
               try clear c43
               try clear c43b0
               try clear c43b1
               try clear c44
               try clear c44b0
               try clear c44b1
               try clear c46
               try clear c46b0
               try clear c47
               try clear c47b0
               try clear c51
               try clear c51b0
               try clear c51b1
               try clear c56
               try clear c57
               try clear c57b0
               try clear hcz21_0
               try clear hcz21_1
               try clear hcz21_2
               try clear hcz21_3
               try clear hcz21_4
               try clear hcz35_0
               try clear hcz35_1
               try clear hcz35_2
               try clear hcz40_0
               try clear hcz40_1
               try clear hcz40_2
               try clear hcz48_0
               try clear hcz48_1
               try clear hcz48_2
               try clear hcz48_3
               try clear hcz48_4
               try clear hcz50_0
               try clear hcz50_1
               try clear hcz50_2
               try clear hcz50_3
               try clear hcz50_4
               try clear hcz54_0
               try clear hcz54_1
               try clear hcz54_2
               try clear hcz54_3
               try clear hcz54_4
               try clear hfz21_0
               try clear hfz21_1
               try clear hfz21_2
               try clear hfz21_3
               try clear hfz21_4
               try clear hfz35_0
               try clear hfz35_1
               try clear hfz35_2
               try clear hfz40_0
               try clear hfz40_1
               try clear hfz40_2
               try clear hfz48_0
               try clear hfz48_1
               try clear hfz48_2
               try clear hfz48_3
               try clear hfz48_4
               try clear hfz50_0
               try clear hfz50_1
               try clear hfz50_2
               try clear hfz50_3
               try clear hfz50_4
               try clear hfz54_0
               try clear hfz54_1
               try clear hfz54_2
               try clear hfz54_3
               try clear hfz54_4
               try clear hx309_0
               try clear hx309_1
               try clear hx309_2
               try clear hx309_3
               try clear hx309_4
               try clear hx315_0
               try clear hx315_1
               try clear hx315_2
               try clear hx321_0
               try clear p2
               try clear p3
               try clear p30
               try clear p309
               try clear p31
               try clear p315
               try clear p32
               try clear p321
               try clear p6
               try clear q2
               try clear q29
               try clear q3
               try clear q30
               try clear q309
               try clear q31
               try clear q315
               try clear q32
               try clear q321
               obtain ⟨kq, x20_52, rfl, HA, HJ52, HO_7, HO_8, HO_17, BK310, HB⟩ := hcut
               cases kq with
               | zero => exact absurd HA.out (by simp [darninglaw19_ImageKeeps.j5])
               | succ kj52 =>
                have H := HA.out
                clear HA
                simp only [darninglaw19_ImageKeeps.j5] at H
                have HC63 := Aside0.mk H
                clear H
                go_upto_region 26 with (fail)
                go_cut [141] (fun v141 wc => ∃ (kq : Nat) (x141_62 : Bool), v141 = .bool x141_62 ∧ Aside0 (darninglaw19_ImageKeeps.j6 kq (wrap64 (1 + (wrap64 (Int.tmod (IntKind.u64.wrap (a0)) 64)))) l1 x7_2 x8_2 t322 t323 t324 l2 (l2.length : Int) x57_2 x141_62 = some true) ∧ Aside0 (kq ≤ kj52) ∧ Aside0 (Kd.R (Kd.int .u64) 28 wc w.heap.size (fun _ => True) (.slice Ao22 x7_2.length co22) x7_2) ∧ Aside0 (MR wc w.heap.size (fun _ => True) (.map (some mbH)) x8_2) ∧ Aside0 (Kd.R k30 30 wc w.heap.size (fun _ => True) v325 t322) ∧ Aside0 (wc.heap[gb310]? = some (.cells #[.int .i64 ((rd_T75 l2 x57_2).f0), .int .i64 ((rd_T75 l2 x57_2).f1), .int .i64 ((rd_T75 l2 x57_2).f2), .int .i64 ((rd_T75 l2 x57_2).f3), (.slice A309_4 ((rd_T75 l2 x57_2).f4).length c309_4)] 75 (0, 0))) ∧ Aside0 (Below w.heap.size w wc))
                case first =>
                 as_aux_lemma =>
                  have H := HC63.out
                  clear HC63
                  by_cases c64 : ((t324 == 0) != x20_52) = true
                  ·
                   rw [if_pos c64] at H
                   have c64b0 : ((t324 == 0) != x20_52) = true := c64
                   (try (have c64b1 : decide ((t324 == 0) = x20_52) = false := by simpa using c64))
                   (try (have c64b2 : ((t324 == 0) == x20_52) = false := by simpa using c64))
                   (try (have c64b3 : ¬ ((t324 == 0) = x20_52) := by simpa using c64))
                   clear c64
                   (first | rw [c64b0] | (simp only [i64_w, i32_w]; rw [c64b0]) | rw [c64b1] | skip)
                   exact absurd H (by simp)
                  rw [if_neg c64] at H
                  have c64b0 : ((t324 == 0) != x20_52) = false := by simpa using c64
                  (try (have c64b1 : decide ((t324 == 0) = x20_52) = true := by simpa using c64))
                  (try (have c64b2 : ((t324 == 0) == x20_52) = true := by simpa using c64))
                  clear c64
                  (first | rw [c64b0] | (simp only [i64_w, i32_w]; rw [c64b0]) | rw [c64b1] | skip)
                  by_cases c65 : t324 = 4
                  rotate_left
                  ·
                   rw [if_neg c65] at H
                   have c65b0 : (t324 == 4) = false := beq_eq_false_iff_ne.mpr c65
                   have c65b1 : (t324 != 4) = true := bne_iff_ne.mpr c65
                   as_aux_lemma =>
                    have H' := Aside0.mk H
                    clear H
                    go_wp2
                    go_meet
                    case rel => exact ⟨_, (false), (by first | rfl | (simp; done) | (simp [*]; done)), (by first | exact H' | ((try rw [hji45]); exact H')), ⟨by have := HJ3.out; have := HK2.out; have := HK3.out; have := HJ40.out; have := HJ52.out; first | omega | exact Nat.le_refl _⟩, ⟨by (with_reducible repeat (first | apply Kd.R_alloc | apply Kd.R_drewN | apply Kd.R_drew)); exact HO_7.out⟩, ⟨by (with_reducible repeat (first | apply MR_alloc | apply MR_drewN | apply MR_drew)); exact HO_8.out⟩, ⟨by (with_reducible repeat (first | apply Kd.R_alloc | apply Kd.R_drewN | apply Kd.R_drew)); exact HO_17.out⟩, ⟨by (with_reducible repeat (first | refine blk_drewN ?_ _ | refine blk_drew ?_ | refine blk_alloc ?_ _)); exact BK310.out⟩, ⟨by repeat (first | (with_reducible first | exact HB.out | apply below_alloc | apply pw_below_drewN | apply below_drew1 | refine below_set ?_ GE310.out) | exact HB.out)⟩⟩
                  rw [if_pos c65] at H
                  have c65b0 : (t324 == 4) = true := beq_iff_eq.mpr c65
                  have c65b1 : (t324 != 4) = false := bne_eq_false_iff_eq.mpr c65
                  clear c65
                  replace H := Option.bind_eq_some_iff.mp H
                  obtain ⟨t330, A660, H⟩ := H
                  replace H : (darninglaw19_ImageKeeps.j6 kj52 (wrap64 (1 + (wrap64 (Int.tmod (IntKind.u64.wrap (a0)) 64)))) l1 x7_2 x8_2 t322 t323 t324 l2 (l2.length : Int) x57_2 (t330 == 0)) = some true := H
                  have A66 := Aside0.mk A660
                  clear A660
                  as_aux_lemma =>
                   have H' := Aside0.mk H
                   clear H
                   have hcz67_0 : wc.cell? ⟨gb310, 0, none⟩ = some (.int .i64 ((rd_T75 l2 x57_2).f0)) := (blk_cell BK310.out 0).trans rfl
                   have hcz67_1 : wc.cell? ⟨gb310, 1, none⟩ = some (.int .i64 ((rd_T75 l2 x57_2).f1)) := (blk_cell BK310.out 1).trans rfl
                   have hcz67_2 : wc.cell? ⟨gb310, 2, none⟩ = some (.int .i64 ((rd_T75 l2 x57_2).f2)) := (blk_cell BK310.out 2).trans rfl
                   have hcz67_3 : wc.cell? ⟨gb310, 3, none⟩ = some (.int .i64 ((rd_T75 l2 x57_2).f3)) := (blk_cell BK310.out 3).trans rfl
                   have hcz67_4 : wc.cell? ⟨gb310, 4, none⟩ = some (.slice A309_4 ((rd_T75 l2 x57_2).f4).length c309_4) := (blk_cell BK310.out 4).trans rfl
                   have hfz67_0 := blk_frozen BK310.out 0
                   have hfz67_1 := blk_frozen BK310.out 1
                   have hfz67_2 := blk_frozen BK310.out 2
                   have hfz67_3 := blk_frozen BK310.out 3
                   have hfz67_4 := blk_frozen BK310.out 4
                   go_wp2_with (first | (go_at_call 41; (with_reducible refine (darningref4_Need.calls ((rd_T75 l2 x57_2).f1) t330 _ A66.out).mono ?_); rintro e w' ⟨rfl, ⟨nd, rfl⟩⟩))
                   go_meet
                   case rel => exact ⟨_, ((t330 == 0)), (by first | rfl | (simp; done) | (simp [*]; done)), (by first | exact H' | ((try rw [hji45]); exact H')), ⟨by have := HJ3.out; have := HK2.out; have := HK3.out; have := HJ40.out; have := HJ52.out; first | omega | exact Nat.le_refl _⟩, ⟨by (with_reducible repeat (first | apply Kd.R_alloc | apply Kd.R_drewN | apply Kd.R_drew)); exact HO_7.out⟩, ⟨by (with_reducible repeat (first | apply MR_alloc | apply MR_drewN | apply MR_drew)); exact HO_8.out⟩, ⟨by (with_reducible repeat (first | apply Kd.R_alloc | apply Kd.R_drewN | apply Kd.R_drew)); exact HO_17.out⟩, ⟨by (with_reducible repeat (first | refine blk_drewN ?_ _ | refine blk_drew ?_ | refine blk_alloc ?_ _)); exact BK310.out⟩, ⟨by repeat (first | (with_reducible first | exact HB.out | apply below_alloc | apply pw_below_drewN | apply below_drew1 | refine below_set ?_ GE310.out) | exact HB.out)⟩⟩
                as_aux_lemma =>
                 clear HC63
                 try clear c1
                 try clear c2
                 try clear p2
                 try clear q2
                 try clear c3
                 try clear p3
                 try clear q3
                 try clear hx3
                 try clear c4
                 try clear c5
                 try clear c6
                 try clear c6b0
                 try clear p6
                 try clear c9
                 try clear c14
                 try clear c14b0
                 try clear c15
                 try clear c15b0
                 try clear c16
                 try clear c16b0
                 try clear c18
                 try clear c19
                 try clear c19b0
                 try clear c19b1
                 try clear c25
                 try clear c25b0
                 try clear c27
                 try clear c27b0
                 try clear c28
                 try clear c28b0
                 try clear c29
                 try clear q29
                 try clear c30
                 try clear p30
                 try clear q30
                 try clear hx30
                 try clear p31
                 try clear q31
                 try clear hx31
                 try clear c32
                 try clear p32
                 try clear q32
                 try clear hx32
                 try clear c34
                 try clear c35
                 try clear c38
                 try clear c39
                 try clear c40
                 try clear c41
                 try clear c43
                 try clear c43b0
                 try clear c43b1
                 try clear c44
                 try clear c44b0
                 try clear c44b1
                 try clear c46
                 try clear c46b0
                 try clear c47
                 try clear c47b0
                 try clear c51
                 try clear c51b0
                 try clear c51b1
                 try clear c56
                 try clear c57
                 try clear c57b0
                 try clear c64
                 try clear c64b0
                 try clear c64b1
                 try clear c64b2
                 try clear p64
                 try clear c65
                 try clear c65b0
                 try clear c65b1
                 try clear hcz21_0
                 try clear hcz21_1
                 try clear hcz21_2
                 try clear hcz21_3
                 try clear hcz21_4
                 try clear hcz35_0
                 try clear hcz35_1
                 try clear hcz35_2
                 try clear hcz40_0
                 try clear hcz40_1
                 try clear hcz40_2
                 try clear hcz48_0
                 try clear hcz48_1
                 try clear hcz48_2
                 try clear hcz48_3
                 try clear hcz48_4
                 try clear hcz50_0
                 try clear hcz50_1
                 try clear hcz50_2
                 try clear hcz50_3
                 try clear hcz50_4
                 try clear hcz54_0
                 try clear hcz54_1
                 try clear hcz54_2
                 try clear hcz54_3
                 try clear hcz54_4
                 try clear hcz67_0
                 try clear hcz67_1
                 try clear hcz67_2
                 try clear hcz67_3
                 try clear hcz67_4
                 try clear hfz21_0
                 try clear hfz21_1
                 try clear hfz21_2
                 try clear hfz21_3
                 try clear hfz21_4
                 try clear hfz35_0
                 try clear hfz35_1
                 try clear hfz35_2
                 try clear hfz40_0
                 try clear hfz40_1
                 try clear hfz40_2
                 try clear hfz48_0
                 try clear hfz48_1
                 try clear hfz48_2
                 try clear hfz48_3
                 try clear hfz48_4
                 try clear hfz50_0
                 try clear hfz50_1
                 try clear hfz50_2
                 try clear hfz50_3
                 try clear hfz50_4
                 try clear hfz54_0
                 try clear hfz54_1
                 try clear hfz54_2
                 try clear hfz54_3
                 try clear hfz54_4
                 try clear hfz67_0
                 try clear hfz67_1
                 try clear hfz67_2
                 try clear hfz67_3
                 try clear hfz67_4
                 try clear hx309_0
                 try clear hx309_1
                 try clear hx309_2
                 try clear hx309_3
                 try clear hx309_4
                 try clear hx315_0
                 try clear hx315_1
                 try clear hx315_2
                 try clear hx321_0
                 try clear p2
                 try clear p3
                 try clear p30
                 try clear p309
                 try clear p31
                 try clear p315
                 try clear p32
                 try clear p321
                 try clear p6
                 try clear q2
                 try clear q29
                 try clear q3
                 try clear q30
                 try clear q309
                 try clear q31
                 try clear q315
                 try clear q32
                 try clear q321
                 obtain ⟨kq, x141_62, rfl, HA, HJ62, HO_7, HO_8, HO_17, BK310, HB⟩ := hcut
                 cases kq with
                 | zero => exact absurd HA.out (by simp [darninglaw19_ImageKeeps.j6])
                 | succ kj62 =>
                  have H := HA.out
                  clear HA
                  simp only [darninglaw19_ImageKeeps.j6] at H
                  by_cases c68 : x141_62 = true
                  ·
                   subst c68
                   have H1 : (some false) = some true := by rw [if_pos rfl] at H; exact H
                   clear H
                   have H := H1
                   clear H1
                   exact absurd H (by simp)
                  replace c68 := Bool.eq_false_iff.mpr c68
                  subst c68
                  have H1 : (if t324 = 0 then ((darningref4_Apply.f kj62 x7_2 t322).bind fun t331 => ((chain_Blocks.f kj62 t331).bind fun bt334 => ((darningref4_Is.f kj62 bt334.1 t323).bind fun t338 => (if t338 < 0 then (some false) else (if 0 ≤ t338 then (if t338 < (bt334.1.length : Int) then (if 0 ≤ (wrap64 ((wrap64 (((rd_T35 bt334.1 t338).f1) - 1)) * 8)) then (if (wrap64 ((wrap64 (((rd_T35 bt334.1 t338).f1) - 1)) * 8) : Int).toNat ≤ 281474976710656 then ((darninglaw19_mput.f x8_2 t323 (strOfNums (List.replicate (wrap64 ((wrap64 (((rd_T35 bt334.1 t338).f1) - 1)) * 8) : Int).toNat 0))).bind fun t343 => (darninglaw19_ImageKeeps.j9 kj62 (wrap64 (1 + (wrap64 (Int.tmod (IntKind.u64.wrap (a0)) 64)))) l1 t331 t343 l2 (l2.length : Int) x57_2)) else (none)) else (none)) else (none)) else (none)))))) else (darninglaw19_ImageKeeps.j9 kj62 (wrap64 (1 + (wrap64 (Int.tmod (IntKind.u64.wrap (a0)) 64)))) l1 x7_2 x8_2 l2 (l2.length : Int) x57_2)) = some true := by rw [if_neg (show ¬ (false = true) by decide)] at H; exact H
                  clear H
                  have H := H1
                  clear H1
                  by_cases c69 : t324 = 0
                  rotate_left
                  ·
                   rw [if_neg c69] at H
                   have c69b0 : (t324 == 0) = false := beq_eq_false_iff_ne.mpr c69
                   have c69b1 : (t324 != 0) = true := bne_iff_ne.mpr c69
                   as_aux_lemma =>
                    have H' := Aside0.mk H
                    clear H
                    go_wp2
                    go_meet
                    case rel => exact ⟨_, (x7_2), (x8_2), (by first | exact H' | ((try rw [hji45]); (try rw [hji76]); exact H')), ⟨by have := HJ3.out; have := HK2.out; have := HK3.out; have := HJ40.out; have := HJ52.out; have := HJ62.out; first | omega | exact Nat.le_refl _⟩, ⟨by (with_reducible repeat (first | apply Kd.R_alloc | apply Kd.R_drewN | apply Kd.R_drew)); exact HO_7.out⟩, ⟨by (with_reducible repeat (first | apply MR_alloc | apply MR_drewN | apply MR_drew)); exact HO_8.out⟩, ⟨by (with_reducible repeat (first | refine blk_drewN ?_ _ | refine blk_drew ?_ | refine blk_alloc ?_ _)); exact BK310.out⟩, ⟨by repeat (first | (with_reducible first | exact HB.out | apply below_alloc | apply pw_below_drewN | apply below_drew1 | refine below_set ?_ GE310.out) | exact HB.out)⟩⟩
                  rw [if_pos c69] at H
                  have c69b0 : (t324 == 0) = true := beq_iff_eq.mpr c69
                  have c69b1 : (t324 != 0) = false := bne_eq_false_iff_eq.mpr c69
                  clear c69
                  replace H := Option.bind_eq_some_iff.mp H
                  obtain ⟨t331, A700, H⟩ := H
                  replace H : ((chain_Blocks.f kj62 t331).bind fun bt334 => ((darningref4_Is.f kj62 bt334.1 t323).bind fun t338 => (if t338 < 0 then (some false) else (if 0 ≤ t338 then (if t338 < (bt334.1.length : Int) then (if 0 ≤ (wrap64 ((wrap64 (((rd_T35 bt334.1 t338).f1) - 1)) * 8)) then (if (wrap64 ((wrap64 (((rd_T35 bt334.1 t338).f1) - 1)) * 8) : Int).toNat ≤ 281474976710656 then ((darninglaw19_mput.f x8_2 t323 (strOfNums (List.replicate (wrap64 ((wrap64 (((rd_T35 bt334.1 t338).f1) - 1)) * 8) : Int).toNat 0))).bind fun t343 => (darninglaw19_ImageKeeps.j9 kj62 (wrap64 (1 + (wrap64 (Int.tmod (IntKind.u64.wrap (a0)) 64)))) l1 t331 t343 l2 (l2.length : Int) x57_2)) else (none)) else (none)) else (none)) else (none))))) = some true := H
                  have A70 := Aside0.mk A700
                  clear A700
                  replace H := Option.bind_eq_some_iff.mp H
                  obtain ⟨⟨t334, t335⟩, A710, H⟩ := H
                  replace H : ((darningref4_Is.f kj62 t334 t323).bind fun t338 => (if t338 < 0 then (some false) else (if 0 ≤ t338 then (if t338 < (t334.length : Int) then (if 0 ≤ (wrap64 ((wrap64 (((rd_T35 t334 t338).f1) - 1)) * 8)) then (if (wrap64 ((wrap64 (((rd_T35 t334 t338).f1) - 1)) * 8) : Int).toNat ≤ 281474976710656 then ((darninglaw19_mput.f x8_2 t323 (strOfNums (List.replicate (wrap64 ((wrap64 (((rd_T35 t334 t338).f1) - 1)) * 8) : Int).toNat 0))).bind fun t343 => (darninglaw19_ImageKeeps.j9 kj62 (wrap64 (1 + (wrap64 (Int.tmod (IntKind.u64.wrap (a0)) 64)))) l1 t331 t343 l2 (l2.length : Int) x57_2)) else (none)) else (none)) else (none)) else (none)))) = some true := H
                  have A71 := Aside0.mk A710
                  clear A710
                  replace H := Option.bind_eq_some_iff.mp H
                  obtain ⟨t338, A720, H⟩ := H
                  replace H : (if t338 < 0 then (some false) else (if 0 ≤ t338 then (if t338 < (t334.length : Int) then (if 0 ≤ (wrap64 ((wrap64 (((rd_T35 t334 t338).f1) - 1)) * 8)) then (if (wrap64 ((wrap64 (((rd_T35 t334 t338).f1) - 1)) * 8) : Int).toNat ≤ 281474976710656 then ((darninglaw19_mput.f x8_2 t323 (strOfNums (List.replicate (wrap64 ((wrap64 (((rd_T35 t334 t338).f1) - 1)) * 8) : Int).toNat 0))).bind fun t343 => (darninglaw19_ImageKeeps.j9 kj62 (wrap64 (1 + (wrap64 (Int.tmod (IntKind.u64.wrap (a0)) 64)))) l1 t331 t343 l2 (l2.length : Int) x57_2)) else (none)) else (none)) else (none)) else (none))) = some true := H
                  have A72 := Aside0.mk A720
                  clear A720
                  by_cases c73 : t338 < 0
                  ·
                   rw [if_pos c73] at H
                   have c73b0 : decide (t338 < 0) = true := decide_eq_true c73
                   clear c73
                   exact absurd H (by simp)
                  rw [if_neg c73] at H
                  have c73b0 : decide (t338 < 0) = false := decide_eq_false c73
                  clear c73
                  by_cases c74 : 0 ≤ t338
                  rotate_left
                  ·
                   rw [if_neg c74] at H
                   exact absurd H (by simp)
                  rw [if_pos c74] at H
                  have c74b0 : decide (0 ≤ t338) = true := decide_eq_true c74
                  clear c74
                  by_cases c75 : t338 < (t334.length : Int)
                  rotate_left
                  ·
                   rw [if_neg c75] at H
                   exact absurd H (by simp)
                  rw [if_pos c75] at H
                  have c75b0 : decide (t338 < (t334.length : Int)) = true := decide_eq_true c75
                  clear c75
                  obtain ⟨ji76, hji76⟩ : ∃ j_ : Int, (wrap64 ((wrap64 (((rd_T35 t334 t338).f1) - 1)) * 8)) = j_ := ⟨_, rfl⟩
                  replace H : (if 0 ≤ (ji76) then (if (ji76 : Int).toNat ≤ 281474976710656 then ((darninglaw19_mput.f x8_2 t323 (strOfNums (List.replicate (ji76 : Int).toNat 0))).bind fun t343 => (darninglaw19_ImageKeeps.j9 kj62 (wrap64 (1 + (wrap64 (Int.tmod (IntKind.u64.wrap (a0)) 64)))) l1 t331 t343 l2 (l2.length : Int) x57_2)) else (none)) else (none)) = some true := by first | (rw [hji76] at H; exact H) | (simp only [hji76] at H ⊢; exact H)
                  (try rw [hji76] at A70)
                  (try rw [hji76] at A71)
                  (try rw [hji76] at A72)
                  have hji76w : (IntKind.i64.wrap ((wrap64 (((rd_T35 t334 t338).f1) - 1)) * 8)) = ji76 := (i64_w _).trans hji76
                  by_cases c77 : 0 ≤ (ji76)
                  rotate_left
                  ·
                   rw [if_neg c77] at H
                   exact absurd H (by simp)
                  rw [if_pos c77] at H
                  have c77b0 := eq_true c77
                  have c77b1 : decide (0 ≤ (ji76)) = true := decide_eq_true c77
                  clear c77
                  by_cases c78 : (ji76 : Int).toNat ≤ 281474976710656
                  rotate_left
                  ·
                   rw [if_neg c78] at H
                   exact absurd H (by simp)
                  rw [if_pos c78] at H
                  have c78b0 := eq_true c78
                  have c78b1 : decide ((ji76 : Int).toNat ≤ 281474976710656) = true := decide_eq_true c78
                  clear c78
                  obtain ⟨y340, hy340⟩ : ∃ y_ : List Int, y_ = (List.replicate (ji76 : Int).toNat 0) := ⟨_, rfl⟩
                  replace H : ((darninglaw19_mput.f x8_2 t323 (strOfNums y340)).bind fun t343 => (darninglaw19_ImageKeeps.j9 kj62 (wrap64 (1 + (wrap64 (Int.tmod (IntKind.u64.wrap (a0)) 64)))) l1 t331 t343 l2 (l2.length : Int) x57_2)) = some true := by first | (rw [hy340]; with_reducible exact H) | (have H2_ := (Option.bind_some _ _).symm.trans H; rw [hy340]; with_reducible exact H2_) | (have H2_ := (Option.bind_some _ _).symm.trans H; with_reducible exact H2_) | with_reducible exact H | (rw [hy340]; exact H) | exact H
                  have Ny340 := Aside0.mk hy340
                  clear hy340
                  replace H := Option.bind_eq_some_iff.mp H
                  obtain ⟨t343, A790, H⟩ := H
                  replace H : (darninglaw19_ImageKeeps.j9 kj62 (wrap64 (1 + (wrap64 (Int.tmod (IntKind.u64.wrap (a0)) 64)))) l1 t331 t343 l2 (l2.length : Int) x57_2) = some true := H
                  have A79 := Aside0.mk A790
                  clear A790
                  as_aux_lemma =>
                   have H' := Aside0.mk H
                   clear H
                   obtain ⟨Ao80, co80, eo80⟩ := Kd.R_slice HO_17.out
                   subst eo80
                   go_wp2_with (first | ((with_reducible refine gate_callee (f := 34) rfl ?_); refine goesL_ (some 146) rfl rfl Try.func34 (by kernel_rfl) rfl #[.slice Ao22 x7_2.length co22, .slice Ao80 t322.length co80] rfl (by (try simp only [List.map_toArray, List.map_cons, List.map_nil]); first | done | rfl | (simp only [List.length_drop, List.length_take]; rfl)) ?_; (with_reducible refine (darningref4_Apply.calls kj62 _ _ x7_2 _ _ t322 t331 _ ?side1 ?side2 ?side3 ?side4 A70.out).mono ?_); (case side1 => repeat (first | exact (Kd.R_reads' HO_7.out).2.2 | (with_reducible refine Kd.C_alloc ?_ _) | (with_reducible refine Kd.C_drewN ?_ _) | (with_reducible refine Kd.C_drew ?_))); (case side2 => exact (Kd.R_reads' HO_7.out).2.1); (case side3 => repeat (first | exact (Kd.R_reads' HO_17.out).2.2 | (with_reducible refine Kd.C_alloc ?_ _) | (with_reducible refine Kd.C_drewN ?_ _) | (with_reducible refine Kd.C_drew ?_))); (case side4 => exact (Kd.R_reads' HO_17.out).2.1); rintro e w81 ⟨v332, rfl, ho0, hb⟩; refine ⟨_, rfl, ?_⟩; have n0_ := Aside0.mk (Kd.R_elder' (by (with_reducible repeat (first | apply Kd.R_alloc | apply Kd.R_drewN | apply Kd.R_drew)); exact HO_7.out) (Kd.R_base ho0) hb); have n1_ := Aside0.mk (MR_below (by (with_reducible repeat (first | apply MR_alloc | apply MR_drewN | apply MR_drew)); exact HO_8.out) hb); have n2_ := Aside0.mk (Kd.R_below (by (with_reducible repeat (first | apply Kd.R_alloc | apply Kd.R_drewN | apply Kd.R_drew)); exact HO_17.out) hb); have n3_ := Aside0.mk (Kd.R_lower (Kd.R_new' ho0 (Kd.R_lt (by (with_reducible repeat (first | apply Kd.R_alloc | apply Kd.R_drewN | apply Kd.R_drew)); exact HO_7.out))) (below_size (by repeat (first | (with_reducible first | exact HB.out | apply below_alloc | apply pw_below_drewN | apply below_drew1 | refine below_set ?_ GE310.out) | exact HB.out)))); have n4_ := Aside0.mk (blk_below (g := gb310) (o := .cells #[.int .i64 ((rd_T75 l2 x57_2).f0), .int .i64 ((rd_T75 l2 x57_2).f1), .int .i64 ((rd_T75 l2 x57_2).f2), .int .i64 ((rd_T75 l2 x57_2).f3), .slice A309_4 ((rd_T75 l2 x57_2).f4).length c309_4] 75 (0, 0)) (by (with_reducible repeat (first | refine blk_drewN ?_ _ | refine blk_drew ?_ | refine blk_alloc ?_ _)); exact BK310.out) hb); have n5_ := Aside0.mk (below_step (by repeat (first | (with_reducible first | exact HB.out | apply below_alloc | apply pw_below_drewN | apply below_drew1 | refine below_set ?_ GE310.out) | exact HB.out)) hb); clear HO_7; clear HO_8; clear HO_17; clear BK310; clear HB; have HO_7 := n0_; have HO_8 := n1_; have HO_17 := n2_; have HO333 := n3_; have BK310 := n4_; have HB := n5_; clear n0_ n1_ n2_ n3_ n4_ n5_; (try clear hb); (try clear hb2); (try clear hk); (try clear hi); (try clear ho0); obtain ⟨Ao82, co82, eo82⟩ := Kd.R_slice HO333.out; subst eo82) | ((with_reducible refine gate_callee (f := 35) rfl ?_); refine goesL_ (some 149) rfl rfl Try.func35 (by kernel_rfl) rfl #[.slice Ao82 t331.length co82] rfl (by (try simp only [List.map_toArray, List.map_cons, List.map_nil]); first | done | rfl | (simp only [List.length_drop, List.length_take]; rfl)) ?_; (with_reducible refine (chain_Blocks.calls kj62 _ _ t331 t334 t335 _ ?side1 ?side2 A71.out).mono ?_); (case side1 => repeat (first | exact (Kd.R_reads' HO333.out).2.2 | (with_reducible refine Kd.C_alloc ?_ _) | (with_reducible refine Kd.C_drewN ?_ _) | (with_reducible refine Kd.C_drew ?_))); (case side2 => exact (Kd.R_reads' HO333.out).2.1); rintro e w83 ⟨v336, rfl, ho0, hb⟩; refine ⟨_, rfl, ?_⟩; have n0_ := Aside0.mk (Kd.R_below (by (with_reducible repeat (first | apply Kd.R_alloc | apply Kd.R_drewN | apply Kd.R_drew)); exact HO_7.out) hb); have n1_ := Aside0.mk (MR_below (by (with_reducible repeat (first | apply MR_alloc | apply MR_drewN | apply MR_drew)); exact HO_8.out) hb); have n2_ := Aside0.mk (Kd.R_below (by (with_reducible repeat (first | apply Kd.R_alloc | apply Kd.R_drewN | apply Kd.R_drew)); exact HO_17.out) hb); have n3_ := Aside0.mk (Kd.R_below (by (with_reducible repeat (first | apply Kd.R_alloc | apply Kd.R_drewN | apply Kd.R_drew)); exact HO333.out) hb); have n4_ := Aside0.mk (Kd.R_lower ho0 (below_size (by repeat (first | (with_reducible first | exact HB.out | apply below_alloc | apply pw_below_drewN | apply below_drew1 | refine below_set ?_ GE310.out) | exact HB.out)))); have n5_ := Aside0.mk (blk_below (g := gb310) (o := .cells #[.int .i64 ((rd_T75 l2 x57_2).f0), .int .i64 ((rd_T75 l2 x57_2).f1), .int .i64 ((rd_T75 l2 x57_2).f2), .int .i64 ((rd_T75 l2 x57_2).f3), .slice A309_4 ((rd_T75 l2 x57_2).f4).length c309_4] 75 (0, 0)) (by (with_reducible repeat (first | refine blk_drewN ?_ _ | refine blk_drew ?_ | refine blk_alloc ?_ _)); exact BK310.out) hb); have n6_ := Aside0.mk (below_step (by repeat (first | (with_reducible first | exact HB.out | apply below_alloc | apply pw_below_drewN | apply below_drew1 | refine below_set ?_ GE310.out) | exact HB.out)) hb); clear HO_7; clear HO_8; clear HO_17; clear HO333; clear BK310; clear HB; have HO_7 := n0_; have HO_8 := n1_; have HO_17 := n2_; have HO333 := n3_; have HO337 := n4_; have BK310 := n5_; have HB := n6_; clear n0_ n1_ n2_ n3_ n4_ n5_ n6_; (try clear hb); (try clear hb2); (try clear hk); (try clear hi); (try clear ho0); obtain ⟨Ao84, co84, eo84⟩ := Kd.R_slice HO337.out; subst eo84) | ((with_reducible refine gate_callee (f := 53) rfl ?_); refine goesL_ (some 154) rfl rfl Try.func53 (by kernel_rfl) rfl #[.slice Ao84 t334.length co84, .int .i64 t323] rfl (by (try simp only [List.map_toArray, List.map_cons, List.map_nil]); first | done | rfl | (simp only [List.length_drop, List.length_take]; rfl)) ?_; (with_reducible refine (darningref4_Is.calls kj62 _ _ t334 t323 t338 _ ?side1 ?side2 A72.out).mono ?_); (case side1 => repeat (first | exact (Kd.R_reads' HO337.out).2.2 | (with_reducible refine Kd.C_alloc ?_ _) | (with_reducible refine Kd.C_drewN ?_ _) | (with_reducible refine Kd.C_drew ?_))); (case side2 => exact (Kd.R_reads' HO337.out).2.1); rintro e w85 ⟨rfl, hb⟩; refine ⟨_, rfl, ?_⟩; have n0_ := Aside0.mk (Kd.R_below (by (with_reducible repeat (first | apply Kd.R_alloc | apply Kd.R_drewN | apply Kd.R_drew)); exact HO_7.out) hb); have n1_ := Aside0.mk (MR_below (by (with_reducible repeat (first | apply MR_alloc | apply MR_drewN | apply MR_drew)); exact HO_8.out) hb); have n2_ := Aside0.mk (Kd.R_below (by (with_reducible repeat (first | apply Kd.R_alloc | apply Kd.R_drewN | apply Kd.R_drew)); exact HO_17.out) hb); have n3_ := Aside0.mk (Kd.R_below (by (with_reducible repeat (first | apply Kd.R_alloc | apply Kd.R_drewN | apply Kd.R_drew)); exact HO333.out) hb); have n4_ := Aside0.mk (Kd.R_below (by (with_reducible repeat (first | apply Kd.R_alloc | apply Kd.R_drewN | apply Kd.R_drew)); exact HO337.out) hb); have n5_ := Aside0.mk (blk_below (g := gb310) (o := .cells #[.int .i64 ((rd_T75 l2 x57_2).f0), .int .i64 ((rd_T75 l2 x57_2).f1), .int .i64 ((rd_T75 l2 x57_2).f2), .int .i64 ((rd_T75 l2 x57_2).f3), .slice A309_4 ((rd_T75 l2 x57_2).f4).length c309_4] 75 (0, 0)) (by (with_reducible repeat (first | refine blk_drewN ?_ _ | refine blk_drew ?_ | refine blk_alloc ?_ _)); exact BK310.out) hb); have n6_ := Aside0.mk (below_step (by repeat (first | (with_reducible first | exact HB.out | apply below_alloc | apply pw_below_drewN | apply below_drew1 | refine below_set ?_ GE310.out) | exact HB.out)) hb); clear HO_7; clear HO_8; clear HO_17; clear HO333; clear HO337; clear BK310; clear HB; have HO_7 := n0_; have HO_8 := n1_; have HO_17 := n2_; have HO333 := n3_; have HO337 := n4_; have BK310 := n5_; have HB := n6_; clear n0_ n1_ n2_ n3_ n4_ n5_ n6_; (try clear hb); (try clear hb2); (try clear hk); (try clear hi); have p339 : 0 ≤ (t338 : Int) := of_decide_eq_true (by first | (with_reducible assumption) | assumption); have q339 : t338 < (t334.length : Int) := of_decide_eq_true (by first | (with_reducible assumption) | assumption); obtain ⟨ad339, e339, hx339_0, hx339_1, hx339_2⟩ := at_T35 (Kd.R_reads' HO337.out).2.2 t338 p339 q339; cases e339; replace p339 := eq_true p339; replace q339 := eq_true q339) | ((with_reducible refine gate_dst (N := 166) rfl ?_); (try (refine gate_guard (by rfl) ?_; dsimp only)); refine Kd.R_make (Kd.int .u8) _ 5 rfl (N := 166) rfl 63 _ _ rfl ji76 rfl rfl Try.underlying63 (.int .u8 0) 1 info5 rfl (by decide) (by omega) 0 (ok := fun _ => True) (okp := fun _ => True) rfl (fun _ hk => hk) trivial (of_decide_eq_true (by first | (with_reducible assumption) | assumption)) (Nat.le_trans (Nat.mul_le_mul_right _ (of_decide_eq_true (by first | (with_reducible assumption) | assumption) : ji76.toNat ≤ 281474976710656)) (by omega)) (Below.refl _ _) (Nat.le_refl _) ?_; intro v341 w86 ho87 hb hg_ hnew_; clear hg_ hnew_; (first | rw [← Ny340.out] at ho87 | (simp only [Int.reduceToNat] at ho87; rw [← Ny340.out] at ho87)); have n0_ := Aside0.mk (Kd.R_below (by (with_reducible repeat (first | apply Kd.R_alloc | apply Kd.R_drewN | apply Kd.R_drew)); exact HO_7.out) hb); have n1_ := Aside0.mk (MR_below (by (with_reducible repeat (first | apply MR_alloc | apply MR_drewN | apply MR_drew)); exact HO_8.out) hb); have n2_ := Aside0.mk (Kd.R_below (by (with_reducible repeat (first | apply Kd.R_alloc | apply Kd.R_drewN | apply Kd.R_drew)); exact HO_17.out) hb); have n3_ := Aside0.mk (Kd.R_below (by (with_reducible repeat (first | apply Kd.R_alloc | apply Kd.R_drewN | apply Kd.R_drew)); exact HO333.out) hb); have n4_ := Aside0.mk (Kd.R_below (by (with_reducible repeat (first | apply Kd.R_alloc | apply Kd.R_drewN | apply Kd.R_drew)); exact HO337.out) hb); have n5_ := Aside0.mk (Kd.R_lower ho87 (below_size (by repeat (first | (with_reducible first | exact HB.out | apply below_alloc | apply pw_below_drewN | apply below_drew1 | refine below_set ?_ GE310.out) | exact HB.out)))); have n6_ := Aside0.mk (blk_below (g := gb310) (o := .cells #[.int .i64 ((rd_T75 l2 x57_2).f0), .int .i64 ((rd_T75 l2 x57_2).f1), .int .i64 ((rd_T75 l2 x57_2).f2), .int .i64 ((rd_T75 l2 x57_2).f3), .slice A309_4 ((rd_T75 l2 x57_2).f4).length c309_4] 75 (0, 0)) (by (with_reducible repeat (first | refine blk_drewN ?_ _ | refine blk_drew ?_ | refine blk_alloc ?_ _)); exact BK310.out) hb); have n7_ := Aside0.mk (below_step (by repeat (first | (with_reducible first | exact HB.out | apply below_alloc | apply pw_below_drewN | apply below_drew1 | refine below_set ?_ GE310.out) | exact HB.out)) hb); clear HO_7; clear HO_8; clear HO_17; clear HO333; clear HO337; clear BK310; clear HB; have HO_7 := n0_; have HO_8 := n1_; have HO_17 := n2_; have HO333 := n3_; have HO337 := n4_; have HO342 := n5_; have BK310 := n6_; have HB := n7_; clear n0_ n1_ n2_ n3_ n4_ n5_ n6_ n7_; clear hb ho87; have hcv88 := own_string (P := Try.prog) Try.underlying63 Try.underlying5 Try.underlying9 (Kd.own_of_R HO342.out)) | (at_mapUpdate; refine wpList_put rfl _ _ _ rfl rfl (by (with_reducible repeat (first | apply MR_alloc | apply MR_drewN | apply MR_drew)); exact HO_8.out) rfl rfl A79.out ?_; intro w90 hM_ hg_; have n0_ := Aside0.mk (MR_beside (by (with_reducible repeat (first | apply MR_alloc | apply MR_drewN | apply MR_drew)); exact HO_8.out) (by (with_reducible repeat (first | apply Kd.R_alloc | apply Kd.R_drewN | apply Kd.R_drew)); exact HO_7.out) hg_); have n1_ := Aside0.mk (hM_); have n2_ := Aside0.mk (MR_beside (by (with_reducible repeat (first | apply MR_alloc | apply MR_drewN | apply MR_drew)); exact HO_8.out) (by (with_reducible repeat (first | apply Kd.R_alloc | apply Kd.R_drewN | apply Kd.R_drew)); exact HO_17.out) hg_); have n3_ := Aside0.mk (MR_beside (by (with_reducible repeat (first | apply MR_alloc | apply MR_drewN | apply MR_drew)); exact HO_8.out) (by (with_reducible repeat (first | apply Kd.R_alloc | apply Kd.R_drewN | apply Kd.R_drew)); exact HO333.out) hg_); have n4_ := Aside0.mk (MR_beside (by (with_reducible repeat (first | apply MR_alloc | apply MR_drewN | apply MR_drew)); exact HO_8.out) (by (with_reducible repeat (first | apply Kd.R_alloc | apply Kd.R_drewN | apply Kd.R_drew)); exact HO337.out) hg_); have n5_ := Aside0.mk (MR_beside (by (with_reducible repeat (first | apply MR_alloc | apply MR_drewN | apply MR_drew)); exact HO_8.out) (by (with_reducible repeat (first | apply Kd.R_alloc | apply Kd.R_drewN | apply Kd.R_drew)); exact HO342.out) hg_); have n6_ := Aside0.mk (hM_); have n7_ := Aside0.mk (MR_box (by (with_reducible repeat (first | apply MR_alloc | apply MR_drewN | apply MR_drew)); exact HO_8.out) (by (with_reducible repeat (first | refine blk_drewN ?_ _ | refine blk_drew ?_ | refine blk_alloc ?_ _)); exact BK310.out) hg_); have n8_ := Aside0.mk (MR_belowB (by (with_reducible repeat (first | apply MR_alloc | apply MR_drewN | apply MR_drew)); exact HO_8.out) (by repeat (first | (with_reducible first | exact HB.out | apply below_alloc | apply pw_below_drewN | apply below_drew1 | refine below_set ?_ GE310.out) | exact HB.out)) hg_); clear HO_7; clear HO_8; clear HO_17; clear HO333; clear HO337; clear HO342; clear BK310; clear HB; have HO_7 := n0_; have HO_8 := n1_; have HO_17 := n2_; have HO333 := n3_; have HO337 := n4_; have HO342 := n5_; have HO345 := n6_; have BK310 := n7_; have HB := n8_; clear n0_ n1_ n2_ n3_ n4_ n5_ n6_ n7_ n8_; (try clear hg_); (try clear hM_); (try clear hb2); (try clear hk); (try clear hi); (try clear ho0)))
                   (try simp only [← hji76])
                   go_meet
                   case rel => exact ⟨_, (t331), (t343), (by first | exact H' | ((try rw [hji45]); (try rw [hji76]); exact H')), ⟨by have := HJ3.out; have := HK2.out; have := HK3.out; have := HJ40.out; have := HJ52.out; have := HJ62.out; first | omega | exact Nat.le_refl _⟩, ⟨by (with_reducible repeat (first | apply Kd.R_alloc | apply Kd.R_drewN | apply Kd.R_drew)); exact Kd.R_mono HO333.out (fun _ hk => trivial)⟩, ⟨by (with_reducible repeat (first | apply MR_alloc | apply MR_drewN | apply MR_drew)); exact MR_mono HO345.out (fun _ hk => trivial)⟩, ⟨by (with_reducible repeat (first | refine blk_drewN ?_ _ | refine blk_drew ?_ | refine blk_alloc ?_ _)); exact BK310.out⟩, ⟨by repeat (first | (with_reducible first | exact HB.out | apply below_alloc | apply pw_below_drewN | apply below_drew1 | refine below_set ?_ GE310.out) | exact HB.out)⟩⟩
             rw [if_neg c51] at H
             have c51b0 : (((rd_T75 l2 x57_2).f0) == 0) = false := beq_eq_false_iff_ne.mpr c51
             have c51b1 : (((rd_T75 l2 x57_2).f0) != 0) = true := bne_iff_ne.mpr c51
             (first | rw [c51b0] | (simp only [i64_w, i32_w]; rw [c51b0]) | rw [c51b1] | skip)
             by_cases c91 : ((rd_T75 l2 x57_2).f0) = 1
             ·
              rw [if_pos c91] at H
              have c91b0 : (((rd_T75 l2 x57_2).f0) == 1) = true := beq_iff_eq.mpr c91
              have c91b1 : (((rd_T75 l2 x57_2).f0) != 1) = false := bne_eq_false_iff_eq.mpr c91
              clear c91
              replace H := Option.bind_eq_some_iff.mp H
              obtain ⟨⟨t346, t347⟩, A920, H⟩ := H
              replace H : (if ((t347 == 0) != (decide ((x13_3.length : Int) > 0))) = true then (some false) else ((darningref4_Apply.f kj40 x7_2 t346).bind fun t350 => ((darninglaw19_mdel.f x8_2 x16_40).bind fun t353 => (darninglaw19_ImageKeeps.j9 kj40 (wrap64 (1 + (wrap64 (Int.tmod (IntKind.u64.wrap (a0)) 64)))) l1 t350 t353 l2 (l2.length : Int) x57_2)))) = some true := H
              have A92 := Aside0.mk A920
              clear A920
              by_cases c93 : ((t347 == 0) != (decide ((x13_3.length : Int) > 0))) = true
              ·
               rw [if_pos c93] at H
               have c93b0 : ((t347 == 0) != (decide ((x13_3.length : Int) > 0))) = true := c93
               have c93b8 : ((t347 == 0) != (decide (0 < x13_3.length))) = true := by have h_ := c93b0; rw [show decide ((x13_3.length : Int) > 0) = decide (0 < x13_3.length) from decide_eq_decide.2 (by omega)] at h_; exact h_
               have c93b9 : ((t347 == 0) != (decide (0 < (x13_3.length : Int)))) = true := c93b0
               have c93b7 : (!(t347 == 0) == decide (0 < x13_3.length)) = true := by revert c93b8; cases (t347 == 0) <;> cases decide (0 < x13_3.length) <;> decide
               (try (have c93b1 : decide ((t347 == 0) = (decide ((x13_3.length : Int) > 0))) = false := by simpa using c93))
               (try (have c93b2 : ((t347 == 0) == (decide ((x13_3.length : Int) > 0))) = false := by simpa using c93))
               (try (have c93b3 : ¬ ((t347 == 0) = (decide ((x13_3.length : Int) > 0))) := by simpa using c93))
               clear c93
               exact absurd H (by simp)
              rw [if_neg c93] at H
              have c93b0 : ((t347 == 0) != (decide ((x13_3.length : Int) > 0))) = false := by simpa using c93
              have c93b8 : ((t347 == 0) != (decide (0 < x13_3.length))) = false := by have h_ := c93b0; rw [show decide ((x13_3.length : Int) > 0) = decide (0 < x13_3.length) from decide_eq_decide.2 (by omega)] at h_; exact h_
              have c93b9 : ((t347 == 0) != (decide (0 < (x13_3.length : Int)))) = false := c93b0
              have c93b7 : (!(t347 == 0) == decide (0 < x13_3.length)) = false := by revert c93b8; cases (t347 == 0) <;> cases decide (0 < x13_3.length) <;> decide
              (try (have c93b1 : decide ((t347 == 0) = (decide ((x13_3.length : Int) > 0))) = true := by simpa using c93))
              (try (have c93b2 : ((t347 == 0) == (decide ((x13_3.length : Int) > 0))) = true := by simpa using c93))
              clear c93
              replace H := Option.bind_eq_some_iff.mp H
              obtain ⟨t350, A940, H⟩ := H
              replace H : ((darninglaw19_mdel.f x8_2 x16_40).bind fun t353 => (darninglaw19_ImageKeeps.j9 kj40 (wrap64 (1 + (wrap64 (Int.tmod (IntKind.u64.wrap (a0)) 64)))) l1 t350 t353 l2 (l2.length : Int) x57_2)) = some true := H
              have A94 := Aside0.mk A940
              clear A940
              replace H := Option.bind_eq_some_iff.mp H
              obtain ⟨t353, A950, H⟩ := H
              replace H : (darninglaw19_ImageKeeps.j9 kj40 (wrap64 (1 + (wrap64 (Int.tmod (IntKind.u64.wrap (a0)) 64)))) l1 t350 t353 l2 (l2.length : Int) x57_2) = some true := H
              have A95 := Aside0.mk A950
              clear A950
              as_aux_lemma =>
               have H' := Aside0.mk H
               clear H
               go_wp2_with (first | ((with_reducible refine gate_callee (f := 46) rfl ?_); refine goesL_ (some 174) rfl rfl Try.func46 (by kernel_rfl) rfl #[.slice Ao22 x7_2.length co22, .int .i64 x16_40] rfl (by (try simp only [List.map_toArray, List.map_cons, List.map_nil]); first | done | rfl | (simp only [List.length_drop, List.length_take]; rfl)) ?_; (with_reducible refine (image_Free.calls kj40 _ _ x7_2 x16_40 t346 t347 _ ?side1 ?side2 A92.out).mono ?_); (case side1 => repeat (first | exact (Kd.R_reads' HO_7.out).2.2 | (with_reducible refine Kd.C_alloc ?_ _) | (with_reducible refine Kd.C_drewN ?_ _) | (with_reducible refine Kd.C_drew ?_))); (case side2 => exact (Kd.R_reads' HO_7.out).2.1); rintro e w96 ⟨v348, rfl, ho0, hb⟩; refine ⟨_, rfl, ?_⟩; have n0_ := Aside0.mk (Kd.R_below (by (with_reducible repeat (first | apply Kd.R_alloc | apply Kd.R_drewN | apply Kd.R_drew)); exact HO_7.out) hb); have n1_ := Aside0.mk (MR_below (by (with_reducible repeat (first | apply MR_alloc | apply MR_drewN | apply MR_drew)); exact HO_8.out) hb); have n2_ := Aside0.mk (Kd.R_below (by (with_reducible repeat (first | apply Kd.R_alloc | apply Kd.R_drewN | apply Kd.R_drew)); exact HO_11.out) hb); have n3_ := Aside0.mk (Kd.R_below (by (with_reducible repeat (first | apply Kd.R_alloc | apply Kd.R_drewN | apply Kd.R_drew)); exact HO_13.out) hb); have n4_ := Aside0.mk (Kd.R_lower ho0 (below_size (by repeat (first | (with_reducible first | exact HB.out | apply below_alloc | apply pw_below_drewN | apply below_drew1 | refine below_set ?_ GE310.out) | exact HB.out)))); have n5_ := Aside0.mk (blk_below (g := gb310) (o := .cells #[.int .i64 ((rd_T75 l2 x57_2).f0), .int .i64 ((rd_T75 l2 x57_2).f1), .int .i64 ((rd_T75 l2 x57_2).f2), .int .i64 ((rd_T75 l2 x57_2).f3), .slice A309_4 ((rd_T75 l2 x57_2).f4).length c309_4] 75 (0, 0)) (by (with_reducible repeat (first | refine blk_drewN ?_ _ | refine blk_drew ?_ | refine blk_alloc ?_ _)); exact BK310.out) hb); have n6_ := Aside0.mk (below_step (by repeat (first | (with_reducible first | exact HB.out | apply below_alloc | apply pw_below_drewN | apply below_drew1 | refine below_set ?_ GE310.out) | exact HB.out)) hb); clear HO_7; clear HO_8; clear HO_11; clear HO_13; clear BK310; clear HB; have HO_7 := n0_; have HO_8 := n1_; have HO_11 := n2_; have HO_13 := n3_; have HO349 := n4_; have BK310 := n5_; have HB := n6_; clear n0_ n1_ n2_ n3_ n4_ n5_ n6_; (try clear hb); (try clear hb2); (try clear hk); (try clear hi); (try clear ho0); obtain ⟨Ao97, co97, eo97⟩ := Kd.R_slice HO349.out; subst eo97) | ((with_reducible refine gate_callee (f := 34) rfl ?_); refine goesL_ (some 185) rfl rfl Try.func34 (by kernel_rfl) rfl #[.slice Ao22 x7_2.length co22, .slice Ao97 t346.length co97] rfl (by (try simp only [List.map_toArray, List.map_cons, List.map_nil]); first | done | rfl | (simp only [List.length_drop, List.length_take]; rfl)) ?_; (with_reducible refine (darningref4_Apply.calls kj40 _ _ x7_2 _ _ t346 t350 _ ?side1 ?side2 ?side3 ?side4 A94.out).mono ?_); (case side1 => repeat (first | exact (Kd.R_reads' HO_7.out).2.2 | (with_reducible refine Kd.C_alloc ?_ _) | (with_reducible refine Kd.C_drewN ?_ _) | (with_reducible refine Kd.C_drew ?_))); (case side2 => exact (Kd.R_reads' HO_7.out).2.1); (case side3 => repeat (first | exact (Kd.R_reads' HO349.out).2.2 | (with_reducible refine Kd.C_alloc ?_ _) | (with_reducible refine Kd.C_drewN ?_ _) | (with_reducible refine Kd.C_drew ?_))); (case side4 => exact (Kd.R_reads' HO349.out).2.1); rintro e w98 ⟨v351, rfl, ho0, hb⟩; refine ⟨_, rfl, ?_⟩; have n0_ := Aside0.mk (Kd.R_elder' (by (with_reducible repeat (first | apply Kd.R_alloc | apply Kd.R_drewN | apply Kd.R_drew)); exact HO_7.out) (Kd.R_base ho0) hb); have n1_ := Aside0.mk (MR_below (by (with_reducible repeat (first | apply MR_alloc | apply MR_drewN | apply MR_drew)); exact HO_8.out) hb); have n2_ := Aside0.mk (Kd.R_below (by (with_reducible repeat (first | apply Kd.R_alloc | apply Kd.R_drewN | apply Kd.R_drew)); exact HO_11.out) hb); have n3_ := Aside0.mk (Kd.R_below (by (with_reducible repeat (first | apply Kd.R_alloc | apply Kd.R_drewN | apply Kd.R_drew)); exact HO_13.out) hb); have n4_ := Aside0.mk (Kd.R_below (by (with_reducible repeat (first | apply Kd.R_alloc | apply Kd.R_drewN | apply Kd.R_drew)); exact HO349.out) hb); have n5_ := Aside0.mk (Kd.R_lower (Kd.R_new' ho0 (Kd.R_lt (by (with_reducible repeat (first | apply Kd.R_alloc | apply Kd.R_drewN | apply Kd.R_drew)); exact HO_7.out))) (below_size (by repeat (first | (with_reducible first | exact HB.out | apply below_alloc | apply pw_below_drewN | apply below_drew1 | refine below_set ?_ GE310.out) | exact HB.out)))); have n6_ := Aside0.mk (blk_below (g := gb310) (o := .cells #[.int .i64 ((rd_T75 l2 x57_2).f0), .int .i64 ((rd_T75 l2 x57_2).f1), .int .i64 ((rd_T75 l2 x57_2).f2), .int .i64 ((rd_T75 l2 x57_2).f3), .slice A309_4 ((rd_T75 l2 x57_2).f4).length c309_4] 75 (0, 0)) (by (with_reducible repeat (first | refine blk_drewN ?_ _ | refine blk_drew ?_ | refine blk_alloc ?_ _)); exact BK310.out) hb); have n7_ := Aside0.mk (below_step (by repeat (first | (with_reducible first | exact HB.out | apply below_alloc | apply pw_below_drewN | apply below_drew1 | refine below_set ?_ GE310.out) | exact HB.out)) hb); clear HO_7; clear HO_8; clear HO_11; clear HO_13; clear HO349; clear BK310; clear HB; have HO_7 := n0_; have HO_8 := n1_; have HO_11 := n2_; have HO_13 := n3_; have HO349 := n4_; have HO352 := n5_; have BK310 := n6_; have HB := n7_; clear n0_ n1_ n2_ n3_ n4_ n5_ n6_ n7_; (try clear hb); (try clear hb2); (try clear hk); (try clear hi); (try clear ho0)) | ((with_reducible refine gate_builtin (b := .delete) (xs := #[.tmp 186, .tmp 187]) rfl ?_); refine wpList_del rfl _ _ rfl rfl (by (with_reducible repeat (first | apply MR_alloc | apply MR_drewN | apply MR_drew)); exact HO_8.out) rfl A95.out ?_; intro w100 hM_ hg_; have n0_ := Aside0.mk (MR_beside (by (with_reducible repeat (first | apply MR_alloc | apply MR_drewN | apply MR_drew)); exact HO_8.out) (by (with_reducible repeat (first | apply Kd.R_alloc | apply Kd.R_drewN | apply Kd.R_drew)); exact HO_7.out) hg_); have n1_ := Aside0.mk (hM_); have n2_ := Aside0.mk (MR_beside (by (with_reducible repeat (first | apply MR_alloc | apply MR_drewN | apply MR_drew)); exact HO_8.out) (by (with_reducible repeat (first | apply Kd.R_alloc | apply Kd.R_drewN | apply Kd.R_drew)); exact HO_11.out) hg_); have n3_ := Aside0.mk (MR_beside (by (with_reducible repeat (first | apply MR_alloc | apply MR_drewN | apply MR_drew)); exact HO_8.out) (by (with_reducible repeat (first | apply Kd.R_alloc | apply Kd.R_drewN | apply Kd.R_drew)); exact HO_13.out) hg_); have n4_ := Aside0.mk (MR_beside (by (with_reducible repeat (first | apply MR_alloc | apply MR_drewN | apply MR_drew)); exact HO_8.out) (by (with_reducible repeat (first | apply Kd.R_alloc | apply Kd.R_drewN | apply Kd.R_drew)); exact HO349.out) hg_); have n5_ := Aside0.mk (MR_beside (by (with_reducible repeat (first | apply MR_alloc | apply MR_drewN | apply MR_drew)); exact HO_8.out) (by (with_reducible repeat (first | apply Kd.R_alloc | apply Kd.R_drewN | apply Kd.R_drew)); exact HO352.out) hg_); have n6_ := Aside0.mk (hM_); have n7_ := Aside0.mk (MR_box (by (with_reducible repeat (first | apply MR_alloc | apply MR_drewN | apply MR_drew)); exact HO_8.out) (by (with_reducible repeat (first | refine blk_drewN ?_ _ | refine blk_drew ?_ | refine blk_alloc ?_ _)); exact BK310.out) hg_); have n8_ := Aside0.mk (MR_belowB (by (with_reducible repeat (first | apply MR_alloc | apply MR_drewN | apply MR_drew)); exact HO_8.out) (by repeat (first | (with_reducible first | exact HB.out | apply below_alloc | apply pw_below_drewN | apply below_drew1 | refine below_set ?_ GE310.out) | exact HB.out)) hg_); clear HO_7; clear HO_8; clear HO_11; clear HO_13; clear HO349; clear HO352; clear BK310; clear HB; have HO_7 := n0_; have HO_8 := n1_; have HO_11 := n2_; have HO_13 := n3_; have HO349 := n4_; have HO352 := n5_; have HO355 := n6_; have BK310 := n7_; have HB := n8_; clear n0_ n1_ n2_ n3_ n4_ n5_ n6_ n7_ n8_; (try clear hg_); (try clear hM_); (try clear hb2); (try clear hk); (try clear hi); (try clear ho0)))
               go_meet
               case rel => exact ⟨_, (t350), (t353), (by first | exact H' | ((try rw [hji45]); (try rw [hji76]); exact H')), ⟨by have := HJ3.out; have := HK2.out; have := HK3.out; have := HJ40.out; first | omega | exact Nat.le_refl _⟩, ⟨by (with_reducible repeat (first | apply Kd.R_alloc | apply Kd.R_drewN | apply Kd.R_drew)); exact Kd.R_mono HO352.out (fun _ hk => trivial)⟩, ⟨by (with_reducible repeat (first | apply MR_alloc | apply MR_drewN | apply MR_drew)); exact MR_mono HO355.out (fun _ hk => trivial)⟩, ⟨by (with_reducible repeat (first | refine blk_drewN ?_ _ | refine blk_drew ?_ | refine blk_alloc ?_ _)); exact BK310.out⟩, ⟨by repeat (first | (with_reducible first | exact HB.out | apply below_alloc | apply pw_below_drewN | apply below_drew1 | refine below_set ?_ GE310.out) | exact HB.out)⟩⟩
             rw [if_neg c91] at H
             have c91b0 : (((rd_T75 l2 x57_2).f0) == 1) = false := beq_eq_false_iff_ne.mpr c91
             have c91b1 : (((rd_T75 l2 x57_2).f0) != 1) = true := bne_iff_ne.mpr c91
             by_cases c101 : ((rd_T75 l2 x57_2).f0) = 2
             rotate_left
             ·
              rw [if_neg c101] at H
              have c101b0 : (((rd_T75 l2 x57_2).f0) == 2) = false := beq_eq_false_iff_ne.mpr c101
              have c101b1 : (((rd_T75 l2 x57_2).f0) != 2) = true := bne_iff_ne.mpr c101
              as_aux_lemma =>
               have H' := Aside0.mk H
               clear H
               go_wp2
               go_meet
               case rel => exact ⟨_, (x7_2), (x8_2), (by first | exact H' | ((try rw [hji45]); (try rw [hji76]); (try rw [hji127]); (try rw [hji132]); exact H')), ⟨by have := HJ3.out; have := HK2.out; have := HK3.out; have := HJ40.out; first | omega | exact Nat.le_refl _⟩, ⟨by (with_reducible repeat (first | apply Kd.R_alloc | apply Kd.R_drewN | apply Kd.R_drew)); exact HO_7.out⟩, ⟨by (with_reducible repeat (first | apply MR_alloc | apply MR_drewN | apply MR_drew)); exact HO_8.out⟩, ⟨by (with_reducible repeat (first | refine blk_drewN ?_ _ | refine blk_drew ?_ | refine blk_alloc ?_ _)); exact BK310.out⟩, ⟨by repeat (first | (with_reducible first | exact HB.out | apply below_alloc | apply pw_below_drewN | apply below_drew1 | refine below_set ?_ GE310.out) | exact HB.out)⟩⟩
             rw [if_pos c101] at H
             have c101b0 : (((rd_T75 l2 x57_2).f0) == 2) = true := beq_iff_eq.mpr c101
             have c101b1 : (((rd_T75 l2 x57_2).f0) != 2) = false := bne_eq_false_iff_eq.mpr c101
             clear c101
             replace H := Option.bind_eq_some_iff.mp H
             obtain ⟨t356, A1020, H⟩ := H
             replace H : (if (IntKind.u64.wrap (wrap64 ((t356.size : Int) + 2))) = 0 then (none) else ((image_Write.f kj40 x7_2 (wrap64 (x16_40 + (wrap64 (Int.tmod (IntKind.u64.wrap (((rd_T75 l2 x57_2).f3))) (IntKind.u64.wrap (wrap64 ((t356.size : Int) + 2))))))) ((rd_T75 l2 x57_2).f4)).bind fun bt357 => (if (x13_3.length : Int) > 0 then (if (wrap64 ((wrap64 (Int.tmod (IntKind.u64.wrap (((rd_T75 l2 x57_2).f3))) (IntKind.u64.wrap (wrap64 ((t356.size : Int) + 2))))) + (((rd_T75 l2 x57_2).f4).length : Int))) ≤ (t356.size : Int) then (darninglaw19_ImageKeeps.j7 kj40 (wrap64 (1 + (wrap64 (Int.tmod (IntKind.u64.wrap (a0)) 64)))) l1 x7_2 x8_2 x16_40 (wrap64 (Int.tmod (IntKind.u64.wrap (((rd_T75 l2 x57_2).f3))) (IntKind.u64.wrap (wrap64 ((t356.size : Int) + 2))))) bt357.1 bt357.2 (decide ((((rd_T75 l2 x57_2).f4).length : Int) ≤ 448)) l2 (l2.length : Int) x57_2 ((rd_T75 l2 x57_2).f0) ((rd_T75 l2 x57_2).f1) ((rd_T75 l2 x57_2).f2) ((rd_T75 l2 x57_2).f3) ((rd_T75 l2 x57_2).f4)) else (darninglaw19_ImageKeeps.j7 kj40 (wrap64 (1 + (wrap64 (Int.tmod (IntKind.u64.wrap (a0)) 64)))) l1 x7_2 x8_2 x16_40 (wrap64 (Int.tmod (IntKind.u64.wrap (((rd_T75 l2 x57_2).f3))) (IntKind.u64.wrap (wrap64 ((t356.size : Int) + 2))))) bt357.1 bt357.2 false l2 (l2.length : Int) x57_2 ((rd_T75 l2 x57_2).f0) ((rd_T75 l2 x57_2).f1) ((rd_T75 l2 x57_2).f2) ((rd_T75 l2 x57_2).f3) ((rd_T75 l2 x57_2).f4))) else (darninglaw19_ImageKeeps.j7 kj40 (wrap64 (1 + (wrap64 (Int.tmod (IntKind.u64.wrap (a0)) 64)))) l1 x7_2 x8_2 x16_40 (wrap64 (Int.tmod (IntKind.u64.wrap (((rd_T75 l2 x57_2).f3))) (IntKind.u64.wrap (wrap64 ((t356.size : Int) + 2))))) bt357.1 bt357.2 false l2 (l2.length : Int) x57_2 ((rd_T75 l2 x57_2).f0) ((rd_T75 l2 x57_2).f1) ((rd_T75 l2 x57_2).f2) ((rd_T75 l2 x57_2).f3) ((rd_T75 l2 x57_2).f4))))) = some true := H
             have A102 := Aside0.mk A1020
             clear A1020
             by_cases c103 : (IntKind.u64.wrap (wrap64 ((t356.size : Int) + 2))) = 0
             ·
              rw [if_pos c103] at H
              exact absurd H (by simp)
             rw [if_neg c103] at H
             have c103b0 : ((IntKind.u64.wrap (wrap64 ((t356.size : Int) + 2))) == 0) = false := beq_eq_false_iff_ne.mpr c103
             have c103b1 : ((IntKind.u64.wrap (wrap64 ((t356.size : Int) + 2))) != 0) = true := bne_iff_ne.mpr c103
             replace H := Option.bind_eq_some_iff.mp H
             obtain ⟨⟨t357, t358⟩, A1040, H⟩ := H
             replace H : (if (x13_3.length : Int) > 0 then (if (wrap64 ((wrap64 (Int.tmod (IntKind.u64.wrap (((rd_T75 l2 x57_2).f3))) (IntKind.u64.wrap (wrap64 ((t356.size : Int) + 2))))) + (((rd_T75 l2 x57_2).f4).length : Int))) ≤ (t356.size : Int) then (darninglaw19_ImageKeeps.j7 kj40 (wrap64 (1 + (wrap64 (Int.tmod (IntKind.u64.wrap (a0)) 64)))) l1 x7_2 x8_2 x16_40 (wrap64 (Int.tmod (IntKind.u64.wrap (((rd_T75 l2 x57_2).f3))) (IntKind.u64.wrap (wrap64 ((t356.size : Int) + 2))))) t357 t358 (decide ((((rd_T75 l2 x57_2).f4).length : Int) ≤ 448)) l2 (l2.length : Int) x57_2 ((rd_T75 l2 x57_2).f0) ((rd_T75 l2 x57_2).f1) ((rd_T75 l2 x57_2).f2) ((rd_T75 l2 x57_2).f3) ((rd_T75 l2 x57_2).f4)) else (darninglaw19_ImageKeeps.j7 kj40 (wrap64 (1 + (wrap64 (Int.tmod (IntKind.u64.wrap (a0)) 64)))) l1 x7_2 x8_2 x16_40 (wrap64 (Int.tmod (IntKind.u64.wrap (((rd_T75 l2 x57_2).f3))) (IntKind.u64.wrap (wrap64 ((t356.size : Int) + 2))))) t357 t358 false l2 (l2.length : Int) x57_2 ((rd_T75 l2 x57_2).f0) ((rd_T75 l2 x57_2).f1) ((rd_T75 l2 x57_2).f2) ((rd_T75 l2 x57_2).f3) ((rd_T75 l2 x57_2).f4))) else (darninglaw19_ImageKeeps.j7 kj40 (wrap64 (1 + (wrap64 (Int.tmod (IntKind.u64.wrap (a0)) 64)))) l1 x7_2 x8_2 x16_40 (wrap64 (Int.tmod (IntKind.u64.wrap (((rd_T75 l2 x57_2).f3))) (IntKind.u64.wrap (wrap64 ((t356.size : Int) + 2))))) t357 t358 false l2 (l2.length : Int) x57_2 ((rd_T75 l2 x57_2).f0) ((rd_T75 l2 x57_2).f1) ((rd_T75 l2 x57_2).f2) ((rd_T75 l2 x57_2).f3) ((rd_T75 l2 x57_2).f4))) = some true := H
             have A104 := Aside0.mk A1040
             clear A1040
             have HC105 := Aside0.mk H
             clear H
             go_upto_region 45 with (first | (at_lookup; refine wpList_look rfl _ _ rfl rfl (by (with_reducible repeat (first | apply MR_alloc | apply MR_drewN | apply MR_drew)); exact HO_8.out) rfl A102.out ?_; intro w107 hb; have n0_ := Aside0.mk (Kd.R_below (by (with_reducible repeat (first | apply Kd.R_alloc | apply Kd.R_drewN | apply Kd.R_drew)); exact HO_7.out) hb); have n1_ := Aside0.mk (MR_below (by (with_reducible repeat (first | apply MR_alloc | apply MR_drewN | apply MR_drew)); exact HO_8.out) hb); have n2_ := Aside0.mk (Kd.R_below (by (with_reducible repeat (first | apply Kd.R_alloc | apply Kd.R_drewN | apply Kd.R_drew)); exact HO_11.out) hb); have n3_ := Aside0.mk (Kd.R_below (by (with_reducible repeat (first | apply Kd.R_alloc | apply Kd.R_drewN | apply Kd.R_drew)); exact HO_13.out) hb); have n4_ := Aside0.mk (blk_below (g := gb310) (o := .cells #[.int .i64 ((rd_T75 l2 x57_2).f0), .int .i64 ((rd_T75 l2 x57_2).f1), .int .i64 ((rd_T75 l2 x57_2).f2), .int .i64 ((rd_T75 l2 x57_2).f3), .slice A309_4 ((rd_T75 l2 x57_2).f4).length c309_4] 75 (0, 0)) (by (with_reducible repeat (first | refine blk_drewN ?_ _ | refine blk_drew ?_ | refine blk_alloc ?_ _)); exact BK310.out) hb); have n5_ := Aside0.mk (below_step (by repeat (first | (with_reducible first | exact HB.out | apply below_alloc | apply pw_below_drewN | apply below_drew1 | refine below_set ?_ GE310.out) | exact HB.out)) hb); clear HO_7; clear HO_8; clear HO_11; clear HO_13; clear BK310; clear HB; have HO_7 := n0_; have HO_8 := n1_; have HO_11 := n2_; have HO_13 := n3_; have BK310 := n4_; have HB := n5_; clear n0_ n1_ n2_ n3_ n4_ n5_; (try clear hb); (try clear hb2); (try clear hk); (try clear hi); have hcz108_0 : w107.cell? ⟨gb310, 0, none⟩ = some (.int .i64 ((rd_T75 l2 x57_2).f0)) := (blk_cell BK310.out 0).trans rfl; have hcz108_1 : w107.cell? ⟨gb310, 1, none⟩ = some (.int .i64 ((rd_T75 l2 x57_2).f1)) := (blk_cell BK310.out 1).trans rfl; have hcz108_2 : w107.cell? ⟨gb310, 2, none⟩ = some (.int .i64 ((rd_T75 l2 x57_2).f2)) := (blk_cell BK310.out 2).trans rfl; have hcz108_3 : w107.cell? ⟨gb310, 3, none⟩ = some (.int .i64 ((rd_T75 l2 x57_2).f3)) := (blk_cell BK310.out 3).trans rfl; have hcz108_4 : w107.cell? ⟨gb310, 4, none⟩ = some (.slice A309_4 ((rd_T75 l2 x57_2).f4).length c309_4) := (blk_cell BK310.out 4).trans rfl; have hfz108_0 := blk_frozen BK310.out 0; have hfz108_1 := blk_frozen BK310.out 1; have hfz108_2 := blk_frozen BK310.out 2; have hfz108_3 := blk_frozen BK310.out 3; have hfz108_4 := blk_frozen BK310.out 4) | ((with_reducible refine gate_callee (f := 50) rfl ?_); refine goesL_ (some 210) rfl rfl Try.func50 (by kernel_rfl) rfl #[.slice Ao22 x7_2.length co22, .int .i64 (wrap64 (x16_40 + (wrap64 (Int.tmod (IntKind.u64.wrap (((rd_T75 l2 x57_2).f3))) (IntKind.u64.wrap (wrap64 ((t356.size : Int) + 2))))))), .slice A309_4 ((rd_T75 l2 x57_2).f4).length c309_4] rfl (by (try simp only [List.map_toArray, List.map_cons, List.map_nil]); first | done | rfl | (simp only [List.length_drop, List.length_take]; rfl)) ?_; (with_reducible refine (image_Write.calls kj40 _ _ x7_2 (wrap64 (x16_40 + (wrap64 (Int.tmod (IntKind.u64.wrap (((rd_T75 l2 x57_2).f3))) (IntKind.u64.wrap (wrap64 ((t356.size : Int) + 2))))))) _ _ ((rd_T75 l2 x57_2).f4) t357 t358 _ ?side1 ?side2 ?side3 ?side4 A104.out).mono ?_); (case side1 => repeat (first | exact (Kd.R_reads' HO_7.out).2.2 | (with_reducible refine Kd.C_alloc ?_ _) | (with_reducible refine Kd.C_drewN ?_ _) | (with_reducible refine Kd.C_drew ?_))); (case side2 => exact (Kd.R_reads' HO_7.out).2.1); (case side3 => repeat (first | exact (Kd.C_below HR309_4.out HB.out) | (with_reducible refine Kd.C_alloc ?_ _) | (with_reducible refine Kd.C_drewN ?_ _) | (with_reducible refine Kd.C_drew ?_))); (case side4 => exact HC309_4.out); rintro e w109 ⟨v359, rfl, ho0, hb⟩; refine ⟨_, rfl, ?_⟩; have n0_ := Aside0.mk (Kd.R_below (by (with_reducible repeat (first | apply Kd.R_alloc | apply Kd.R_drewN | apply Kd.R_drew)); exact HO_7.out) hb); have n1_ := Aside0.mk (MR_below (by (with_reducible repeat (first | apply MR_alloc | apply MR_drewN | apply MR_drew)); exact HO_8.out) hb); have n2_ := Aside0.mk (Kd.R_below (by (with_reducible repeat (first | apply Kd.R_alloc | apply Kd.R_drewN | apply Kd.R_drew)); exact HO_11.out) hb); have n3_ := Aside0.mk (Kd.R_below (by (with_reducible repeat (first | apply Kd.R_alloc | apply Kd.R_drewN | apply Kd.R_drew)); exact HO_13.out) hb); have n4_ := Aside0.mk (Kd.R_lower ho0 (below_size (by repeat (first | (with_reducible first | exact HB.out | apply below_alloc | apply pw_below_drewN | apply below_drew1 | refine below_set ?_ GE310.out) | exact HB.out)))); have n5_ := Aside0.mk (blk_below (g := gb310) (o := .cells #[.int .i64 ((rd_T75 l2 x57_2).f0), .int .i64 ((rd_T75 l2 x57_2).f1), .int .i64 ((rd_T75 l2 x57_2).f2), .int .i64 ((rd_T75 l2 x57_2).f3), .slice A309_4 ((rd_T75 l2 x57_2).f4).length c309_4] 75 (0, 0)) (by (with_reducible repeat (first | refine blk_drewN ?_ _ | refine blk_drew ?_ | refine blk_alloc ?_ _)); exact BK310.out) hb); have n6_ := Aside0.mk (below_step (by repeat (first | (with_reducible first | exact HB.out | apply below_alloc | apply pw_below_drewN | apply below_drew1 | refine below_set ?_ GE310.out) | exact HB.out)) hb); clear HO_7; clear HO_8; clear HO_11; clear HO_13; clear BK310; clear HB; have HO_7 := n0_; have HO_8 := n1_; have HO_11 := n2_; have HO_13 := n3_; have HO360 := n4_; have BK310 := n5_; have HB := n6_; clear n0_ n1_ n2_ n3_ n4_ n5_ n6_; (try clear hb); (try clear hb2); (try clear hk); (try clear hi); (try clear ho0)))
             (try simp only [Act.put, List.setIfInBounds_toArray, List.set_cons_zero, List.set_cons_succ])
             go_cut [30] (fun v30 wc => ∃ (kq : Nat) (x30_104 : Bool), v30 = .bool x30_104 ∧ Aside0 (darninglaw19_ImageKeeps.j7 kq (wrap64 (1 + (wrap64 (Int.tmod (IntKind.u64.wrap (a0)) 64)))) l1 x7_2 x8_2 x16_40 (wrap64 (Int.tmod (IntKind.u64.wrap (((rd_T75 l2 x57_2).f3))) (IntKind.u64.wrap (wrap64 ((t356.size : Int) + 2))))) t357 t358 x30_104 l2 (l2.length : Int) x57_2 ((rd_T75 l2 x57_2).f0) ((rd_T75 l2 x57_2).f1) ((rd_T75 l2 x57_2).f2) ((rd_T75 l2 x57_2).f3) ((rd_T75 l2 x57_2).f4) = some true) ∧ Aside0 (kq ≤ kj40) ∧ Aside0 (Kd.R (Kd.int .u64) 28 wc w.heap.size (fun _ => True) (.slice Ao22 x7_2.length co22) x7_2) ∧ Aside0 (MR wc w.heap.size (fun _ => True) (.map (some mbH)) x8_2) ∧ Aside0 (Kd.R k30 30 wc w.heap.size (fun _ => True) v359 t357) ∧ Aside0 (wc.heap[gb310]? = some (.cells #[.int .i64 ((rd_T75 l2 x57_2).f0), .int .i64 ((rd_T75 l2 x57_2).f1), .int .i64 ((rd_T75 l2 x57_2).f2), .int .i64 ((rd_T75 l2 x57_2).f3), (.slice A309_4 ((rd_T75 l2 x57_2).f4).length c309_4)] 75 (0, 0))) ∧ Aside0 (Below w.heap.size w wc))
             case first =>
              as_aux_lemma =>
               have H := HC105.out
               clear HC105
               by_cases c110 : (x13_3.length : Int) > 0
               rotate_left
               ·
                rw [if_neg c110] at H
                have c110b0 : decide (0 < (x13_3.length : Int)) = false := decide_eq_false c110
                have c110b1 : decide (0 < x13_3.length) = false := decide_eq_false (by omega)
                clear c110
                (first | rw [c110b0] | (simp only [i64_w, i32_w]; rw [c110b0]) | rw [c110b1] | skip)
                as_aux_lemma =>
                 have H' := Aside0.mk H
                 clear H
                 go_wp2
                 go_meet
                 case rel => exact ⟨_, (false), (by first | rfl | (simp; done) | (simp [*]; done)), (by first | exact H' | ((try rw [hji45]); (try rw [hji76]); exact H')), ⟨by have := HJ3.out; have := HK2.out; have := HK3.out; have := HJ40.out; first | omega | exact Nat.le_refl _⟩, ⟨by (with_reducible repeat (first | apply Kd.R_alloc | apply Kd.R_drewN | apply Kd.R_drew)); exact HO_7.out⟩, ⟨by (with_reducible repeat (first | apply MR_alloc | apply MR_drewN | apply MR_drew)); exact HO_8.out⟩, ⟨by (with_reducible repeat (first | apply Kd.R_alloc | apply Kd.R_drewN | apply Kd.R_drew)); exact HO360.out⟩, ⟨by (with_reducible repeat (first | refine blk_drewN ?_ _ | refine blk_drew ?_ | refine blk_alloc ?_ _)); exact BK310.out⟩, ⟨by repeat (first | (with_reducible first | exact HB.out | apply below_alloc | apply pw_below_drewN | apply below_drew1 | refine below_set ?_ GE310.out) | exact HB.out)⟩⟩
               rw [if_pos c110] at H
               have c110b0 : decide (0 < (x13_3.length : Int)) = true := decide_eq_true c110
               have c110b1 : decide (0 < x13_3.length) = true := decide_eq_true (by omega)
               clear c110
               (first | rw [c110b0] | (simp only [i64_w, i32_w]; rw [c110b0]) | rw [c110b1] | skip)
               by_cases c111 : (wrap64 ((wrap64 (Int.tmod (IntKind.u64.wrap (((rd_T75 l2 x57_2).f3))) (IntKind.u64.wrap (wrap64 ((t356.size : Int) + 2))))) + (((rd_T75 l2 x57_2).f4).length : Int))) ≤ (t356.size : Int)
               rotate_left
               ·
                rw [if_neg c111] at H
                have c111b0 : decide ((wrap64 ((wrap64 (Int.tmod (IntKind.u64.wrap (((rd_T75 l2 x57_2).f3))) (IntKind.u64.wrap (wrap64 ((t356.size : Int) + 2))))) + (((rd_T75 l2 x57_2).f4).length : Int))) ≤ (t356.size : Int)) = false := decide_eq_false c111
                clear c111
                as_aux_lemma =>
                 have H' := Aside0.mk H
                 clear H
                 have hcz113_0 : w109.cell? ⟨gb310, 0, none⟩ = some (.int .i64 ((rd_T75 l2 x57_2).f0)) := (blk_cell BK310.out 0).trans rfl
                 have hcz113_1 : w109.cell? ⟨gb310, 1, none⟩ = some (.int .i64 ((rd_T75 l2 x57_2).f1)) := (blk_cell BK310.out 1).trans rfl
                 have hcz113_2 : w109.cell? ⟨gb310, 2, none⟩ = some (.int .i64 ((rd_T75 l2 x57_2).f2)) := (blk_cell BK310.out 2).trans rfl
                 have hcz113_3 : w109.cell? ⟨gb310, 3, none⟩ = some (.int .i64 ((rd_T75 l2 x57_2).f3)) := (blk_cell BK310.out 3).trans rfl
                 have hcz113_4 : w109.cell? ⟨gb310, 4, none⟩ = some (.slice A309_4 ((rd_T75 l2 x57_2).f4).length c309_4) := (blk_cell BK310.out 4).trans rfl
                 have hfz113_0 := blk_frozen BK310.out 0
                 have hfz113_1 := blk_frozen BK310.out 1
                 have hfz113_2 := blk_frozen BK310.out 2
                 have hfz113_3 := blk_frozen BK310.out 3
                 have hfz113_4 := blk_frozen BK310.out 4
                 go_wp2
                 go_meet
                 case rel => exact ⟨_, (false), (by first | rfl | (simp; done) | (simp [*]; done)), (by first | exact H' | ((try rw [hji45]); (try rw [hji76]); exact H')), ⟨by have := HJ3.out; have := HK2.out; have := HK3.out; have := HJ40.out; first | omega | exact Nat.le_refl _⟩, ⟨by (with_reducible repeat (first | apply Kd.R_alloc | apply Kd.R_drewN | apply Kd.R_drew)); exact HO_7.out⟩, ⟨by (with_reducible repeat (first | apply MR_alloc | apply MR_drewN | apply MR_drew)); exact HO_8.out⟩, ⟨by (with_reducible repeat (first | apply Kd.R_alloc | apply Kd.R_drewN | apply Kd.R_drew)); exact HO360.out⟩, ⟨by (with_reducible repeat (first | refine blk_drewN ?_ _ | refine blk_drew ?_ | refine blk_alloc ?_ _)); exact BK310.out⟩, ⟨by repeat (first | (with_reducible first | exact HB.out | apply below_alloc | apply pw_below_drewN | apply below_drew1 | refine below_set ?_ GE310.out) | exact HB.out)⟩⟩
               rw [if_pos c111] at H
               have c111b0 : decide ((wrap64 ((wrap64 (Int.tmod (IntKind.u64.wrap (((rd_T75 l2 x57_2).f3))) (IntKind.u64.wrap (wrap64 ((t356.size : Int) + 2))))) + (((rd_T75 l2 x57_2).f4).length : Int))) ≤ (t356.size : Int)) = true := decide_eq_true c111
               clear c111
               as_aux_lemma =>
                have H' := Aside0.mk H
                clear H
                have hcz112_0 : w109.cell? ⟨gb310, 0, none⟩ = some (.int .i64 ((rd_T75 l2 x57_2).f0)) := (blk_cell BK310.out 0).trans rfl
                have hcz112_1 : w109.cell? ⟨gb310, 1, none⟩ = some (.int .i64 ((rd_T75 l2 x57_2).f1)) := (blk_cell BK310.out 1).trans rfl
                have hcz112_2 : w109.cell? ⟨gb310, 2, none⟩ = some (.int .i64 ((rd_T75 l2 x57_2).f2)) := (blk_cell BK310.out 2).trans rfl
                have hcz112_3 : w109.cell? ⟨gb310, 3, none⟩ = some (.int .i64 ((rd_T75 l2 x57_2).f3)) := (blk_cell BK310.out 3).trans rfl
                have hcz112_4 : w109.cell? ⟨gb310, 4, none⟩ = some (.slice A309_4 ((rd_T75 l2 x57_2).f4).length c309_4) := (blk_cell BK310.out 4).trans rfl
                have hfz112_0 := blk_frozen BK310.out 0
                have hfz112_1 := blk_frozen BK310.out 1
                have hfz112_2 := blk_frozen BK310.out 2
                have hfz112_3 := blk_frozen BK310.out 3
                have hfz112_4 := blk_frozen BK310.out 4
                go_wp2
                go_meet
                case rel => exact ⟨_, (decide ((((rd_T75 l2 x57_2).f4).length : Int) ≤ 448)), (by first | rfl | (simp; done) | (simp [*]; done)), (by first | exact H' | ((try rw [hji45]); (try rw [hji76]); exact H')), ⟨by have := HJ3.out; have := HK2.out; have := HK3.out; have := HJ40.out; first | omega | exact Nat.le_refl _⟩, ⟨by (with_reducible repeat (first | apply Kd.R_alloc | apply Kd.R_drewN | apply Kd.R_drew)); exact HO_7.out⟩, ⟨by (with_reducible repeat (first | apply MR_alloc | apply MR_drewN | apply MR_drew)); exact HO_8.out⟩, ⟨by (with_reducible repeat (first | apply Kd.R_alloc | apply Kd.R_drewN | apply Kd.R_drew)); exact HO360.out⟩, ⟨by (with_reducible repeat (first | refine blk_drewN ?_ _ | refine blk_drew ?_ | refine blk_alloc ?_ _)); exact BK310.out⟩, ⟨by repeat (first | (with_reducible first | exact HB.out | apply below_alloc | apply pw_below_drewN | apply below_drew1 | refine below_set ?_ GE310.out) | exact HB.out)⟩⟩
             as_aux_lemma =>
              clear HC105
              try clear c1
              try clear c2
              try clear p2
              try clear q2
              try clear c3
              try clear p3
              try clear q3
              try clear hx3
              try clear c4
              try clear c5
              try clear c6
              try clear c6b0
              try clear p6
              try clear c7
              try clear hcv8
              try clear c9
              try clear c10
              try clear c11
              try clear c14
              try clear c14b0
              try clear c15
              try clear c15b0
              try clear c16
              try clear c16b0
              try clear c18
              try clear c19
              try clear c19b0
              try clear c19b1
              try clear c25
              try clear c25b0
              try clear c27
              try clear c27b0
              try clear c28
              try clear c28b0
              try clear c29
              try clear q29
              try clear c30
              try clear p30
              try clear q30
              try clear hx30
              try clear p31
              try clear q31
              try clear hx31
              try clear c32
              try clear p32
              try clear q32
              try clear hx32
              try clear p33
              try clear q33
              try clear hx33
              try clear c34
              try clear c35
              try clear c38
              try clear c39
              try clear c40
              try clear c41
              try clear c43
              try clear c43b0
              try clear c43b1
              try clear c44
              try clear c44b0
              try clear c44b1
              try clear c46
              try clear c46b0
              try clear c47
              try clear c47b0
              try clear c50
              try clear c51
              try clear c51b0
              try clear c51b1
              try clear c53
              try clear c56
              try clear c57
              try clear c57b0
              try clear c64
              try clear c64b0
              try clear c64b1
              try clear c64b2
              try clear p64
              try clear c65
              try clear c65b0
              try clear c65b1
              try clear c68
              try clear c69
              try clear c69b0
              try clear c69b1
              try clear c73
              try clear c73b0
              try clear c74
              try clear c74b0
              try clear c75
              try clear c75b0
              try clear c77
              try clear c77b0
              try clear c77b1
              try clear c78
              try clear c78b0
              try clear c78b1
              try clear hcv88
              try clear c91
              try clear c91b0
              try clear c91b1
              try clear c93
              try clear c93b0
              try clear c93b1
              try clear c93b2
              try clear c101
              try clear c101b0
              try clear c101b1
              try clear c103
              try clear c103b0
              try clear c103b1
              try clear c108
              try clear c109
              try clear c110
              try clear c110b0
              try clear c110b1
              try clear c111
              try clear c111b0
              try clear hcz108_0
              try clear hcz108_1
              try clear hcz108_2
              try clear hcz108_3
              try clear hcz108_4
              try clear hcz112_0
              try clear hcz112_1
              try clear hcz112_2
              try clear hcz112_3
              try clear hcz112_4
              try clear hcz113_0
              try clear hcz113_1
              try clear hcz113_2
              try clear hcz113_3
              try clear hcz113_4
              try clear hcz21_0
              try clear hcz21_1
              try clear hcz21_2
              try clear hcz21_3
              try clear hcz21_4
              try clear hcz35_0
              try clear hcz35_1
              try clear hcz35_2
              try clear hcz40_0
              try clear hcz40_1
              try clear hcz40_2
              try clear hcz48_0
              try clear hcz48_1
              try clear hcz48_2
              try clear hcz48_3
              try clear hcz48_4
              try clear hcz50_0
              try clear hcz50_1
              try clear hcz50_2
              try clear hcz50_3
              try clear hcz50_4
              try clear hcz54_0
              try clear hcz54_1
              try clear hcz54_2
              try clear hcz54_3
              try clear hcz54_4
              try clear hcz67_0
              try clear hcz67_1
              try clear hcz67_2
              try clear hcz67_3
              try clear hcz67_4
              try clear hfz108_0
              try clear hfz108_1
              try clear hfz108_2
              try clear hfz108_3
              try clear hfz108_4
              try clear hfz112_0
              try clear hfz112_1
              try clear hfz112_2
              try clear hfz112_3
              try clear hfz112_4
              try clear hfz113_0
              try clear hfz113_1
              try clear hfz113_2
              try clear hfz113_3
              try clear hfz113_4
              try clear hfz21_0
              try clear hfz21_1
              try clear hfz21_2
              try clear hfz21_3
              try clear hfz21_4
              try clear hfz35_0
              try clear hfz35_1
              try clear hfz35_2
              try clear hfz40_0
              try clear hfz40_1
              try clear hfz40_2
              try clear hfz48_0
              try clear hfz48_1
              try clear hfz48_2
              try clear hfz48_3
              try clear hfz48_4
              try clear hfz50_0
              try clear hfz50_1
              try clear hfz50_2
              try clear hfz50_3
              try clear hfz50_4
              try clear hfz54_0
              try clear hfz54_1
              try clear hfz54_2
              try clear hfz54_3
              try clear hfz54_4
              try clear hfz67_0
              try clear hfz67_1
              try clear hfz67_2
              try clear hfz67_3
              try clear hfz67_4
              try clear hx309_0
              try clear hx309_1
              try clear hx309_2
              try clear hx309_3
              try clear hx309_4
              try clear hx315_0
              try clear hx315_1
              try clear hx315_2
              try clear hx321_0
              try clear hx339_0
              try clear hx339_1
              try clear hx339_2
              try clear p2
              try clear p3
              try clear p30
              try clear p309
              try clear p31
              try clear p315
              try clear p32
              try clear p321
              try clear p339
              try clear p6
              try clear p64
              try clear q2
              try clear q29
              try clear q3
              try clear q30
              try clear q309
              try clear q31
              try clear q315
              try clear q32
              try clear q321
              try clear q339
              obtain ⟨kq, x30_104, rfl, HA, HJ104, HO_7, HO_8, HO_28, BK310, HB⟩ := hcut
              cases kq with
              | zero => exact absurd HA.out (by simp [darninglaw19_ImageKeeps.j7])
              | succ kj104 =>
               have H := HA.out
               clear HA
               simp only [darninglaw19_ImageKeeps.j7] at H
               have HC114 := Aside0.mk H
               clear H
               go_upto_region 46 with (fail)
               go_cut [260] (fun v260 wc => ∃ (kq : Nat) (x260_113 : Bool), v260 = .bool x260_113 ∧ Aside0 (darninglaw19_ImageKeeps.j8 kq (wrap64 (1 + (wrap64 (Int.tmod (IntKind.u64.wrap (a0)) 64)))) l1 x7_2 x8_2 x16_40 (wrap64 (Int.tmod (IntKind.u64.wrap (((rd_T75 l2 x57_2).f3))) (IntKind.u64.wrap (wrap64 ((t356.size : Int) + 2))))) t357 x30_104 l2 (l2.length : Int) x57_2 x260_113 ((rd_T75 l2 x57_2).f0) ((rd_T75 l2 x57_2).f1) ((rd_T75 l2 x57_2).f2) ((rd_T75 l2 x57_2).f3) ((rd_T75 l2 x57_2).f4) = some true) ∧ Aside0 (kq ≤ kj104) ∧ Aside0 (Kd.R (Kd.int .u64) 28 wc w.heap.size (fun _ => True) (.slice Ao22 x7_2.length co22) x7_2) ∧ Aside0 (MR wc w.heap.size (fun _ => True) (.map (some mbH)) x8_2) ∧ Aside0 (Kd.R k30 30 wc w.heap.size (fun _ => True) v359 t357) ∧ Aside0 (wc.heap[gb310]? = some (.cells #[.int .i64 ((rd_T75 l2 x57_2).f0), .int .i64 ((rd_T75 l2 x57_2).f1), .int .i64 ((rd_T75 l2 x57_2).f2), .int .i64 ((rd_T75 l2 x57_2).f3), (.slice A309_4 ((rd_T75 l2 x57_2).f4).length c309_4)] 75 (0, 0))) ∧ Aside0 (Below w.heap.size w wc))
               case first =>
                as_aux_lemma =>
                 have H := HC114.out
                 clear HC114
                 by_cases c115 : t358 = 0
                 rotate_left
                 ·
                  rw [if_neg c115] at H
                  have c115b0 : (t358 == 0) = false := beq_eq_false_iff_ne.mpr c115
                  have c115b1 : (t358 != 0) = true := bne_iff_ne.mpr c115
                  (first | rw [c115b0] | (simp only [i64_w, i32_w]; rw [c115b0]) | rw [c115b1] | skip)
                  as_aux_lemma =>
                   have H' := Aside0.mk H
                   clear H
                   go_wp2
                   go_meet
                   case rel => exact ⟨_, (x30_104), (by first | rfl | (simp; done) | (simp [*]; done)), (by first | exact H' | ((try rw [hji45]); (try rw [hji76]); exact H')), ⟨by have := HJ3.out; have := HK2.out; have := HK3.out; have := HJ40.out; have := HJ104.out; first | omega | exact Nat.le_refl _⟩, ⟨by (with_reducible repeat (first | apply Kd.R_alloc | apply Kd.R_drewN | apply Kd.R_drew)); exact HO_7.out⟩, ⟨by (with_reducible repeat (first | apply MR_alloc | apply MR_drewN | apply MR_drew)); exact HO_8.out⟩, ⟨by (with_reducible repeat (first | apply Kd.R_alloc | apply Kd.R_drewN | apply Kd.R_drew)); exact HO_28.out⟩, ⟨by (with_reducible repeat (first | refine blk_drewN ?_ _ | refine blk_drew ?_ | refine blk_alloc ?_ _)); exact BK310.out⟩, ⟨by repeat (first | (with_reducible first | exact HB.out | apply below_alloc | apply pw_below_drewN | apply below_drew1 | refine below_set ?_ GE310.out) | exact HB.out)⟩⟩
                 rw [if_pos c115] at H
                 have c115b0 : (t358 == 0) = true := beq_iff_eq.mpr c115
                 have c115b1 : (t358 != 0) = false := bne_eq_false_iff_eq.mpr c115
                 clear c115
                 (first | rw [c115b0] | (simp only [i64_w, i32_w]; rw [c115b0]) | rw [c115b1] | skip)
                 by_cases c116 : x30_104 = true
                 ·
                  subst c116
                  have H1 : (darninglaw19_ImageKeeps.j8 kj104 (wrap64 (1 + (wrap64 (Int.tmod (IntKind.u64.wrap (a0)) 64)))) l1 x7_2 x8_2 x16_40 (wrap64 (Int.tmod (IntKind.u64.wrap (((rd_T75 l2 x57_2).f3))) (IntKind.u64.wrap (wrap64 ((t356.size : Int) + 2))))) t357 true l2 (l2.length : Int) x57_2 false ((rd_T75 l2 x57_2).f0) ((rd_T75 l2 x57_2).f1) ((rd_T75 l2 x57_2).f2) ((rd_T75 l2 x57_2).f3) ((rd_T75 l2 x57_2).f4)) = some true := by rw [if_pos rfl] at H; exact H
                  clear H
                  have H := H1
                  clear H1
                  as_aux_lemma =>
                   have H' := Aside0.mk H
                   clear H
                   go_wp2
                   go_meet
                   case rel => exact ⟨_, (false), (by first | rfl | (simp; done) | (simp [*]; done)), (by first | exact H' | ((try rw [hji45]); (try rw [hji76]); exact H')), ⟨by have := HJ3.out; have := HK2.out; have := HK3.out; have := HJ40.out; have := HJ104.out; first | omega | exact Nat.le_refl _⟩, ⟨by (with_reducible repeat (first | apply Kd.R_alloc | apply Kd.R_drewN | apply Kd.R_drew)); exact HO_7.out⟩, ⟨by (with_reducible repeat (first | apply MR_alloc | apply MR_drewN | apply MR_drew)); exact HO_8.out⟩, ⟨by (with_reducible repeat (first | apply Kd.R_alloc | apply Kd.R_drewN | apply Kd.R_drew)); exact HO_28.out⟩, ⟨by (with_reducible repeat (first | refine blk_drewN ?_ _ | refine blk_drew ?_ | refine blk_alloc ?_ _)); exact BK310.out⟩, ⟨by repeat (first | (with_reducible first | exact HB.out | apply below_alloc | apply pw_below_drewN | apply below_drew1 | refine below_set ?_ GE310.out) | exact HB.out)⟩⟩
                 replace c116 := Bool.eq_false_iff.mpr c116
                 subst c116
                 have H1 : (if (((rd_T75 l2 x57_2).f4).length : Int) > 0 then ((image_Holds.f kj104 x7_2 (wrap64 (x16_40 + (wrap64 (Int.tmod (IntKind.u64.wrap (((rd_T75 l2 x57_2).f3))) (IntKind.u64.wrap (wrap64 ((t356.size : Int) + 2))))))) (((rd_T75 l2 x57_2).f4).length : Int)).bind fun t361 => (if t361 = true then (darninglaw19_ImageKeeps.j8 kj104 (wrap64 (1 + (wrap64 (Int.tmod (IntKind.u64.wrap (a0)) 64)))) l1 x7_2 x8_2 x16_40 (wrap64 (Int.tmod (IntKind.u64.wrap (((rd_T75 l2 x57_2).f3))) (IntKind.u64.wrap (wrap64 ((t356.size : Int) + 2))))) t357 false l2 (l2.length : Int) x57_2 false ((rd_T75 l2 x57_2).f0) ((rd_T75 l2 x57_2).f1) ((rd_T75 l2 x57_2).f2) ((rd_T75 l2 x57_2).f3) ((rd_T75 l2 x57_2).f4)) else (some false))) else (darninglaw19_ImageKeeps.j8 kj104 (wrap64 (1 + (wrap64 (Int.tmod (IntKind.u64.wrap (a0)) 64)))) l1 x7_2 x8_2 x16_40 (wrap64 (Int.tmod (IntKind.u64.wrap (((rd_T75 l2 x57_2).f3))) (IntKind.u64.wrap (wrap64 ((t356.size : Int) + 2))))) t357 false l2 (l2.length : Int) x57_2 false ((rd_T75 l2 x57_2).f0) ((rd_T75 l2 x57_2).f1) ((rd_T75 l2 x57_2).f2) ((rd_T75 l2 x57_2).f3) ((rd_T75 l2 x57_2).f4))) = some true := by rw [if_neg (show ¬ (false = true) by decide)] at H; exact H
                 clear H
                 have H := H1
                 clear H1
                 by_cases c117 : (((rd_T75 l2 x57_2).f4).length : Int) > 0
                 rotate_left
                 ·
                  rw [if_neg c117] at H
                  have c117b0 : decide (0 < (((rd_T75 l2 x57_2).f4).length : Int)) = false := decide_eq_false c117
                  have c117b1 : decide (0 < ((rd_T75 l2 x57_2).f4).length) = false := decide_eq_false (by omega)
                  clear c117
                  as_aux_lemma =>
                   have H' := Aside0.mk H
                   clear H
                   have hcz122_0 : wc.cell? ⟨gb310, 0, none⟩ = some (.int .i64 ((rd_T75 l2 x57_2).f0)) := (blk_cell BK310.out 0).trans rfl
                   have hcz122_1 : wc.cell? ⟨gb310, 1, none⟩ = some (.int .i64 ((rd_T75 l2 x57_2).f1)) := (blk_cell BK310.out 1).trans rfl
                   have hcz122_2 : wc.cell? ⟨gb310, 2, none⟩ = some (.int .i64 ((rd_T75 l2 x57_2).f2)) := (blk_cell BK310.out 2).trans rfl
                   have hcz122_3 : wc.cell? ⟨gb310, 3, none⟩ = some (.int .i64 ((rd_T75 l2 x57_2).f3)) := (blk_cell BK310.out 3).trans rfl
                   have hcz122_4 : wc.cell? ⟨gb310, 4, none⟩ = some (.slice A309_4 ((rd_T75 l2 x57_2).f4).length c309_4) := (blk_cell BK310.out 4).trans rfl
                   have hfz122_0 := blk_frozen BK310.out 0
                   have hfz122_1 := blk_frozen BK310.out 1
                   have hfz122_2 := blk_frozen BK310.out 2
                   have hfz122_3 := blk_frozen BK310.out 3
                   have hfz122_4 := blk_frozen BK310.out 4
                   go_wp2
                   go_meet
                   case rel => exact ⟨_, (false), (by first | rfl | (simp; done) | (simp [*]; done)), (by first | exact H' | ((try rw [hji45]); (try rw [hji76]); exact H')), ⟨by have := HJ3.out; have := HK2.out; have := HK3.out; have := HJ40.out; have := HJ104.out; first | omega | exact Nat.le_refl _⟩, ⟨by (with_reducible repeat (first | apply Kd.R_alloc | apply Kd.R_drewN | apply Kd.R_drew)); exact HO_7.out⟩, ⟨by (with_reducible repeat (first | apply MR_alloc | apply MR_drewN | apply MR_drew)); exact HO_8.out⟩, ⟨by (with_reducible repeat (first | apply Kd.R_alloc | apply Kd.R_drewN | apply Kd.R_drew)); exact HO_28.out⟩, ⟨by (with_reducible repeat (first | refine blk_drewN ?_ _ | refine blk_drew ?_ | refine blk_alloc ?_ _)); exact BK310.out⟩, ⟨by repeat (first | (with_reducible first | exact HB.out | apply below_alloc | apply pw_below_drewN | apply below_drew1 | refine below_set ?_ GE310.out) | exact HB.out)⟩⟩
                 rw [if_pos c117] at H
                 have c117b0 : decide (0 < (((rd_T75 l2 x57_2).f4).length : Int)) = true := decide_eq_true c117
                 have c117b1 : decide (0 < ((rd_T75 l2 x57_2).f4).length) = true := decide_eq_true (by omega)
                 clear c117
                 replace H := Option.bind_eq_some_iff.mp H
                 obtain ⟨t361, A1180, H⟩ := H
                 replace H : (if t361 = true then (darninglaw19_ImageKeeps.j8 kj104 (wrap64 (1 + (wrap64 (Int.tmod (IntKind.u64.wrap (a0)) 64)))) l1 x7_2 x8_2 x16_40 (wrap64 (Int.tmod (IntKind.u64.wrap (((rd_T75 l2 x57_2).f3))) (IntKind.u64.wrap (wrap64 ((t356.size : Int) + 2))))) t357 false l2 (l2.length : Int) x57_2 false ((rd_T75 l2 x57_2).f0) ((rd_T75 l2 x57_2).f1) ((rd_T75 l2 x57_2).f2) ((rd_T75 l2 x57_2).f3) ((rd_T75 l2 x57_2).f4)) else (some false)) = some true := H
                 have A118 := Aside0.mk A1180
                 clear A1180
                 by_cases c119 : t361 = true
                 rotate_left
                 ·
                  replace c119 := Bool.eq_false_iff.mpr c119
                  subst c119
                  have H1 : (some false) = some true := by rw [if_neg (show ¬ (false = true) by decide)] at H; exact H
                  clear H
                  have H := H1
                  clear H1
                  exact absurd H (by simp)
                 subst c119
                 have H1 : (darninglaw19_ImageKeeps.j8 kj104 (wrap64 (1 + (wrap64 (Int.tmod (IntKind.u64.wrap (a0)) 64)))) l1 x7_2 x8_2 x16_40 (wrap64 (Int.tmod (IntKind.u64.wrap (((rd_T75 l2 x57_2).f3))) (IntKind.u64.wrap (wrap64 ((t356.size : Int) + 2))))) t357 false l2 (l2.length : Int) x57_2 false ((rd_T75 l2 x57_2).f0) ((rd_T75 l2 x57_2).f1) ((rd_T75 l2 x57_2).f2) ((rd_T75 l2 x57_2).f3) ((rd_T75 l2 x57_2).f4)) = some true := by rw [if_pos rfl] at H; exact H
                 clear H
                 have H := H1
                 clear H1
                 as_aux_lemma =>
                  have H' := Aside0.mk H
                  clear H
                  have hcz120_0 : wc.cell? ⟨gb310, 0, none⟩ = some (.int .i64 ((rd_T75 l2 x57_2).f0)) := (blk_cell BK310.out 0).trans rfl
                  have hcz120_1 : wc.cell? ⟨gb310, 1, none⟩ = some (.int .i64 ((rd_T75 l2 x57_2).f1)) := (blk_cell BK310.out 1).trans rfl
                  have hcz120_2 : wc.cell? ⟨gb310, 2, none⟩ = some (.int .i64 ((rd_T75 l2 x57_2).f2)) := (blk_cell BK310.out 2).trans rfl
                  have hcz120_3 : wc.cell? ⟨gb310, 3, none⟩ = some (.int .i64 ((rd_T75 l2 x57_2).f3)) := (blk_cell BK310.out 3).trans rfl
                  have hcz120_4 : wc.cell? ⟨gb310, 4, none⟩ = some (.slice A309_4 ((rd_T75 l2 x57_2).f4).length c309_4) := (blk_cell BK310.out 4).trans rfl
                  have hfz120_0 := blk_frozen BK310.out 0
                  have hfz120_1 := blk_frozen BK310.out 1
                  have hfz120_2 := blk_frozen BK310.out 2
                  have hfz120_3 := blk_frozen BK310.out 3
                  have hfz120_4 := blk_frozen BK310.out 4
                  go_wp2_with (first | (go_at_call 42; (with_reducible refine (image_Holds.calls kj104 _ _ x7_2 (wrap64 (x16_40 + (wrap64 (Int.tmod (IntKind.u64.wrap (((rd_T75 l2 x57_2).f3))) (IntKind.u64.wrap (wrap64 ((t356.size : Int) + 2))))))) (((rd_T75 l2 x57_2).f4).length : Int) true _ ?side1 ?side2 A118.out).mono ?_); (case side1 => repeat (first | exact (Kd.R_reads' HO_7.out).2.2 | (with_reducible refine Kd.C_alloc ?_ _) | (with_reducible refine Kd.C_drewN ?_ _) | (with_reducible refine Kd.C_drew ?_))); (case side2 => exact (Kd.R_reads' HO_7.out).2.1); rintro e w121 ⟨rfl, hb⟩; have n0_ := Aside0.mk (Kd.R_below (by (with_reducible repeat (first | apply Kd.R_alloc | apply Kd.R_drewN | apply Kd.R_drew)); exact HO_7.out) hb); have n1_ := Aside0.mk (MR_below (by (with_reducible repeat (first | apply MR_alloc | apply MR_drewN | apply MR_drew)); exact HO_8.out) hb); have n2_ := Aside0.mk (Kd.R_below (by (with_reducible repeat (first | apply Kd.R_alloc | apply Kd.R_drewN | apply Kd.R_drew)); exact HO_28.out) hb); have n3_ := Aside0.mk (blk_below (g := gb310) (o := .cells #[.int .i64 ((rd_T75 l2 x57_2).f0), .int .i64 ((rd_T75 l2 x57_2).f1), .int .i64 ((rd_T75 l2 x57_2).f2), .int .i64 ((rd_T75 l2 x57_2).f3), .slice A309_4 ((rd_T75 l2 x57_2).f4).length c309_4] 75 (0, 0)) (by (with_reducible repeat (first | refine blk_drewN ?_ _ | refine blk_drew ?_ | refine blk_alloc ?_ _)); exact BK310.out) hb); have n4_ := Aside0.mk (below_step (by repeat (first | (with_reducible first | exact HB.out | apply below_alloc | apply pw_below_drewN | apply below_drew1 | refine below_set ?_ GE310.out) | exact HB.out)) hb); clear HO_7; clear HO_8; clear HO_28; clear BK310; clear HB; have HO_7 := n0_; have HO_8 := n1_; have HO_28 := n2_; have BK310 := n3_; have HB := n4_; clear n0_ n1_ n2_ n3_ n4_; (try clear hb); (try clear hb2); (try clear hk); (try clear hi)))
                  go_meet
                  case rel => exact ⟨_, (false), (by first | rfl | (simp; done) | (simp [*]; done)), (by first | exact H' | ((try rw [hji45]); (try rw [hji76]); exact H')), ⟨by have := HJ3.out; have := HK2.out; have := HK3.out; have := HJ40.out; have := HJ104.out; first | omega | exact Nat.le_refl _⟩, ⟨by (with_reducible repeat (first | apply Kd.R_alloc | apply Kd.R_drewN | apply Kd.R_drew)); exact HO_7.out⟩, ⟨by (with_reducible repeat (first | apply MR_alloc | apply MR_drewN | apply MR_drew)); exact HO_8.out⟩, ⟨by (with_reducible repeat (first | apply Kd.R_alloc | apply Kd.R_drewN | apply Kd.R_drew)); exact HO_28.out⟩, ⟨by (with_reducible repeat (first | refine blk_drewN ?_ _ | refine blk_drew ?_ | refine blk_alloc ?_ _)); exact BK310.out⟩, ⟨by repeat (first | (with_reducible first | exact HB.out | apply below_alloc | apply pw_below_drewN | apply below_drew1 | refine below_set ?_ GE310.out) | exact HB.out)⟩⟩
               as_aux_lemma =>
                clear HC114
                try clear c1
                try clear c2
                try clear p2
                try clear q2
                try clear c3
                try clear p3
                try clear q3
                try clear hx3
                try clear c4
                try clear c5
                try clear c6
                try clear c6b0
                try clear p6
                try clear c7
                try clear hcv8
                try clear c9
                try clear c10
                try clear c11
                try clear c14
                try clear c14b0
                try clear c15
                try clear c15b0
                try clear c16
                try clear c16b0
                try clear c18
                try clear c19
                try clear c19b0
                try clear c19b1
                try clear c25
                try clear c25b0
                try clear c27
                try clear c27b0
                try clear c28
                try clear c28b0
                try clear c29
                try clear q29
                try clear c30
                try clear p30
                try clear q30
                try clear hx30
                try clear p31
                try clear q31
                try clear hx31
                try clear c32
                try clear p32
                try clear q32
                try clear hx32
                try clear p33
                try clear q33
                try clear hx33
                try clear c34
                try clear c35
                try clear c38
                try clear c39
                try clear c40
                try clear c41
                try clear c43
                try clear c43b0
                try clear c43b1
                try clear c44
                try clear c44b0
                try clear c44b1
                try clear c46
                try clear c46b0
                try clear c47
                try clear c47b0
                try clear c50
                try clear c51
                try clear c51b0
                try clear c51b1
                try clear c53
                try clear c56
                try clear c57
                try clear c57b0
                try clear c64
                try clear c64b0
                try clear c64b1
                try clear c64b2
                try clear p64
                try clear c65
                try clear c65b0
                try clear c65b1
                try clear c68
                try clear c69
                try clear c69b0
                try clear c69b1
                try clear c73
                try clear c73b0
                try clear c74
                try clear c74b0
                try clear c75
                try clear c75b0
                try clear c77
                try clear c77b0
                try clear c77b1
                try clear c78
                try clear c78b0
                try clear c78b1
                try clear hcv88
                try clear c91
                try clear c91b0
                try clear c91b1
                try clear c93
                try clear c93b0
                try clear c93b1
                try clear c93b2
                try clear c101
                try clear c101b0
                try clear c101b1
                try clear c103
                try clear c103b0
                try clear c103b1
                try clear c108
                try clear c109
                try clear c110
                try clear c110b0
                try clear c110b1
                try clear c111
                try clear c111b0
                try clear c115
                try clear c115b0
                try clear c115b1
                try clear c116
                try clear c117
                try clear c117b0
                try clear c117b1
                try clear c119
                try clear hcz108_0
                try clear hcz108_1
                try clear hcz108_2
                try clear hcz108_3
                try clear hcz108_4
                try clear hcz112_0
                try clear hcz112_1
                try clear hcz112_2
                try clear hcz112_3
                try clear hcz112_4
                try clear hcz113_0
                try clear hcz113_1
                try clear hcz113_2
                try clear hcz113_3
                try clear hcz113_4
                try clear hcz120_0
                try clear hcz120_1
                try clear hcz120_2
                try clear hcz120_3
                try clear hcz120_4
                try clear hcz122_0
                try clear hcz122_1
                try clear hcz122_2
                try clear hcz122_3
                try clear hcz122_4
                try clear hcz21_0
                try clear hcz21_1
                try clear hcz21_2
                try clear hcz21_3
                try clear hcz21_4
                try clear hcz35_0
                try clear hcz35_1
                try clear hcz35_2
                try clear hcz40_0
                try clear hcz40_1
                try clear hcz40_2
                try clear hcz48_0
                try clear hcz48_1
                try clear hcz48_2
                try clear hcz48_3
                try clear hcz48_4
                try clear hcz50_0
                try clear hcz50_1
                try clear hcz50_2
                try clear hcz50_3
                try clear hcz50_4
                try clear hcz54_0
                try clear hcz54_1
                try clear hcz54_2
                try clear hcz54_3
                try clear hcz54_4
                try clear hcz67_0
                try clear hcz67_1
                try clear hcz67_2
                try clear hcz67_3
                try clear hcz67_4
                try clear hfz108_0
                try clear hfz108_1
                try clear hfz108_2
                try clear hfz108_3
                try clear hfz108_4
                try clear hfz112_0
                try clear hfz112_1
                try clear hfz112_2
                try clear hfz112_3
                try clear hfz112_4
                try clear hfz113_0
                try clear hfz113_1
                try clear hfz113_2
                try clear hfz113_3
                try clear hfz113_4
                try clear hfz120_0
                try clear hfz120_1
                try clear hfz120_2
                try clear hfz120_3
                try clear hfz120_4
                try clear hfz122_0
                try clear hfz122_1
                try clear hfz122_2
                try clear hfz122_3
                try clear hfz122_4
                try clear hfz21_0
                try clear hfz21_1
                try clear hfz21_2
                try clear hfz21_3
                try clear hfz21_4
                try clear hfz35_0
                try clear hfz35_1
                try clear hfz35_2
                try clear hfz40_0
                try clear hfz40_1
                try clear hfz40_2
                try clear hfz48_0
                try clear hfz48_1
                try clear hfz48_2
                try clear hfz48_3
                try clear hfz48_4
                try clear hfz50_0
                try clear hfz50_1
                try clear hfz50_2
                try clear hfz50_3
                try clear hfz50_4
                try clear hfz54_0
                try clear hfz54_1
                try clear hfz54_2
                try clear hfz54_3
                try clear hfz54_4
                try clear hfz67_0
                try clear hfz67_1
                try clear hfz67_2
                try clear hfz67_3
                try clear hfz67_4
                try clear hx309_0
                try clear hx309_1
                try clear hx309_2
                try clear hx309_3
                try clear hx309_4
                try clear hx315_0
                try clear hx315_1
                try clear hx315_2
                try clear hx321_0
                try clear hx339_0
                try clear hx339_1
                try clear hx339_2
                try clear p2
                try clear p3
                try clear p30
                try clear p309
                try clear p31
                try clear p315
                try clear p32
                try clear p321
                try clear p33
                try clear p339
                try clear p6
                try clear p64
                try clear q2
                try clear q29
                try clear q3
                try clear q30
                try clear q309
                try clear q31
                try clear q315
                try clear q32
                try clear q321
                try clear q33
                try clear q339
                obtain ⟨kq, x260_113, rfl, HA, HJ113, HO_7, HO_8, HO_28, BK310, HB⟩ := hcut
                cases kq with
                | zero => exact absurd HA.out (by simp [darninglaw19_ImageKeeps.j8])
                | succ kj113 =>
                 have H := HA.out
                 clear HA
                 simp only [darninglaw19_ImageKeeps.j8] at H
                 by_cases c123 : x260_113 = true
                 ·
                  subst c123
                  have H1 : (some false) = some true := by rw [if_pos rfl] at H; exact H
                  clear H
                  have H := H1
                  clear H1
                  exact absurd H (by simp)
                 replace c123 := Bool.eq_false_iff.mpr c123
                 subst c123
                 have H1 : (if x30_104 = true then ((darningref4_Apply.f kj113 x7_2 t357).bind fun t362 => ((darninglaw19_mget.f x8_2 x16_40).bind fun t365 => (if 0 ≤ (wrap64 (Int.tmod (IntKind.u64.wrap (((rd_T75 l2 x57_2).f3))) (IntKind.u64.wrap (wrap64 ((t356.size : Int) + 2))))) then (if (wrap64 (Int.tmod (IntKind.u64.wrap (((rd_T75 l2 x57_2).f3))) (IntKind.u64.wrap (wrap64 ((t356.size : Int) + 2))))) ≤ (t365.size : Int) then (if (t365.extract 0 ((wrap64 (Int.tmod (IntKind.u64.wrap (((rd_T75 l2 x57_2).f3))) (IntKind.u64.wrap (wrap64 ((t356.size : Int) + 2))))) : Int).toNat).size + (strOfNums ((rd_T75 l2 x57_2).f4)).size ≤ 9223372036854775807 then ((darninglaw19_mget.f x8_2 x16_40).bind fun t366 => (if 0 ≤ (wrap64 ((wrap64 (Int.tmod (IntKind.u64.wrap (((rd_T75 l2 x57_2).f3))) (IntKind.u64.wrap (wrap64 ((t356.size : Int) + 2))))) + (((rd_T75 l2 x57_2).f4).length : Int))) then (if (wrap64 ((wrap64 (Int.tmod (IntKind.u64.wrap (((rd_T75 l2 x57_2).f3))) (IntKind.u64.wrap (wrap64 ((t356.size : Int) + 2))))) + (((rd_T75 l2 x57_2).f4).length : Int))) ≤ (t366.size : Int) then (if ((t365.extract 0 ((wrap64 (Int.tmod (IntKind.u64.wrap (((rd_T75 l2 x57_2).f3))) (IntKind.u64.wrap (wrap64 ((t356.size : Int) + 2))))) : Int).toNat) ++ (strOfNums ((rd_T75 l2 x57_2).f4))).size + (t366.extract ((wrap64 ((wrap64 (Int.tmod (IntKind.u64.wrap (((rd_T75 l2 x57_2).f3))) (IntKind.u64.wrap (wrap64 ((t356.size : Int) + 2))))) + (((rd_T75 l2 x57_2).f4).length : Int))) : Int).toNat t366.size).size ≤ 9223372036854775807 then ((darninglaw19_mput.f x8_2 x16_40 (((t365.extract 0 ((wrap64 (Int.tmod (IntKind.u64.wrap (((rd_T75 l2 x57_2).f3))) (IntKind.u64.wrap (wrap64 ((t356.size : Int) + 2))))) : Int).toNat) ++ (strOfNums ((rd_T75 l2 x57_2).f4))) ++ (t366.extract ((wrap64 ((wrap64 (Int.tmod (IntKind.u64.wrap (((rd_T75 l2 x57_2).f3))) (IntKind.u64.wrap (wrap64 ((t356.size : Int) + 2))))) + (((rd_T75 l2 x57_2).f4).length : Int))) : Int).toNat t366.size))).bind fun t367 => (darninglaw19_ImageKeeps.j9 kj113 (wrap64 (1 + (wrap64 (Int.tmod (IntKind.u64.wrap (a0)) 64)))) l1 t362 t367 l2 (l2.length : Int) x57_2)) else (none)) else (none)) else (none))) else (none)) else (none)) else (none)))) else (darninglaw19_ImageKeeps.j9 kj113 (wrap64 (1 + (wrap64 (Int.tmod (IntKind.u64.wrap (a0)) 64)))) l1 x7_2 x8_2 l2 (l2.length : Int) x57_2)) = some true := by rw [if_neg (show ¬ (false = true) by decide)] at H; exact H
                 clear H
                 have H := H1
                 clear H1
                 by_cases c124 : x30_104 = true
                 rotate_left
                 ·
                  replace c124 := Bool.eq_false_iff.mpr c124
                  subst c124
                  have H1 : (darninglaw19_ImageKeeps.j9 kj113 (wrap64 (1 + (wrap64 (Int.tmod (IntKind.u64.wrap (a0)) 64)))) l1 x7_2 x8_2 l2 (l2.length : Int) x57_2) = some true := by rw [if_neg (show ¬ (false = true) by decide)] at H; exact H
                  clear H
                  have H := H1
                  clear H1
                  as_aux_lemma =>
                   have H' := Aside0.mk H
                   clear H
                   go_wp2
                   go_meet
                   case rel => exact ⟨_, (x7_2), (x8_2), (by first | exact H' | ((try rw [hji45]); (try rw [hji76]); (try rw [hji127]); (try rw [hji132]); exact H')), ⟨by have := HJ3.out; have := HK2.out; have := HK3.out; have := HJ40.out; have := HJ104.out; have := HJ113.out; first | omega | exact Nat.le_refl _⟩, ⟨by (with_reducible repeat (first | apply Kd.R_alloc | apply Kd.R_drewN | apply Kd.R_drew)); exact HO_7.out⟩, ⟨by (with_reducible repeat (first | apply MR_alloc | apply MR_drewN | apply MR_drew)); exact HO_8.out⟩, ⟨by (with_reducible repeat (first | refine blk_drewN ?_ _ | refine blk_drew ?_ | refine blk_alloc ?_ _)); exact BK310.out⟩, ⟨by repeat (first | (with_reducible first | exact HB.out | apply below_alloc | apply pw_below_drewN | apply below_drew1 | refine below_set ?_ GE310.out) | exact HB.out)⟩⟩
                 subst c124
                 have H1 : ((darningref4_Apply.f kj113 x7_2 t357).bind fun t362 => ((darninglaw19_mget.f x8_2 x16_40).bind fun t365 => (if 0 ≤ (wrap64 (Int.tmod (IntKind.u64.wrap (((rd_T75 l2 x57_2).f3))) (IntKind.u64.wrap (wrap64 ((t356.size : Int) + 2))))) then (if (wrap64 (Int.tmod (IntKind.u64.wrap (((rd_T75 l2 x57_2).f3))) (IntKind.u64.wrap (wrap64 ((t356.size : Int) + 2))))) ≤ (t365.size : Int) then (if (t365.extract 0 ((wrap64 (Int.tmod (IntKind.u64.wrap (((rd_T75 l2 x57_2).f3))) (IntKind.u64.wrap (wrap64 ((t356.size : Int) + 2))))) : Int).toNat).size + (strOfNums ((rd_T75 l2 x57_2).f4)).size ≤ 9223372036854775807 then ((darninglaw19_mget.f x8_2 x16_40).bind fun t366 => (if 0 ≤ (wrap64 ((wrap64 (Int.tmod (IntKind.u64.wrap (((rd_T75 l2 x57_2).f3))) (IntKind.u64.wrap (wrap64 ((t356.size : Int) + 2))))) + (((rd_T75 l2 x57_2).f4).length : Int))) then (if (wrap64 ((wrap64 (Int.tmod (IntKind.u64.wrap (((rd_T75 l2 x57_2).f3))) (IntKind.u64.wrap (wrap64 ((t356.size : Int) + 2))))) + (((rd_T75 l2 x57_2).f4).length : Int))) ≤ (t366.size : Int) then (if ((t365.extract 0 ((wrap64 (Int.tmod (IntKind.u64.wrap (((rd_T75 l2 x57_2).f3))) (IntKind.u64.wrap (wrap64 ((t356.size : Int) + 2))))) : Int).toNat) ++ (strOfNums ((rd_T75 l2 x57_2).f4))).size + (t366.extract ((wrap64 ((wrap64 (Int.tmod (IntKind.u64.wrap (((rd_T75 l2 x57_2).f3))) (IntKind.u64.wrap (wrap64 ((t356.size : Int) + 2))))) + (((rd_T75 l2 x57_2).f4).length : Int))) : Int).toNat t366.size).size ≤ 9223372036854775807 then ((darninglaw19_mput.f x8_2 x16_40 (((t365.extract 0 ((wrap64 (Int.tmod (IntKind.u64.wrap (((rd_T75 l2 x57_2).f3))) (IntKind.u64.wrap (wrap64 ((t356.size : Int) + 2))))) : Int).toNat) ++ (strOfNums ((rd_T75 l2 x57_2).f4))) ++ (t366.extract ((wrap64 ((wrap64 (Int.tmod (IntKind.u64.wrap (((rd_T75 l2 x57_2).f3))) (IntKind.u64.wrap (wrap64 ((t356.size : Int) + 2))))) + (((rd_T75 l2 x57_2).f4).length : Int))) : Int).toNat t366.size))).bind fun t367 => (darninglaw19_ImageKeeps.j9 kj113 (wrap64 (1 + (wrap64 (Int.tmod (IntKind.u64.wrap (a0)) 64)))) l1 t362 t367 l2 (l2.length : Int) x57_2)) else (none)) else (none)) else (none))) else (none)) else (none)) else (none)))) = some true := by rw [if_pos rfl] at H; exact H
                 clear H
                 have H := H1
                 clear H1
                 replace H := Option.bind_eq_some_iff.mp H
                 obtain ⟨t362, A1250, H⟩ := H
                 replace H : ((darninglaw19_mget.f x8_2 x16_40).bind fun t365 => (if 0 ≤ (wrap64 (Int.tmod (IntKind.u64.wrap (((rd_T75 l2 x57_2).f3))) (IntKind.u64.wrap (wrap64 ((t356.size : Int) + 2))))) then (if (wrap64 (Int.tmod (IntKind.u64.wrap (((rd_T75 l2 x57_2).f3))) (IntKind.u64.wrap (wrap64 ((t356.size : Int) + 2))))) ≤ (t365.size : Int) then (if (t365.extract 0 ((wrap64 (Int.tmod (IntKind.u64.wrap (((rd_T75 l2 x57_2).f3))) (IntKind.u64.wrap (wrap64 ((t356.size : Int) + 2))))) : Int).toNat).size + (strOfNums ((rd_T75 l2 x57_2).f4)).size ≤ 9223372036854775807 then ((darninglaw19_mget.f x8_2 x16_40).bind fun t366 => (if 0 ≤ (wrap64 ((wrap64 (Int.tmod (IntKind.u64.wrap (((rd_T75 l2 x57_2).f3))) (IntKind.u64.wrap (wrap64 ((t356.size : Int) + 2))))) + (((rd_T75 l2 x57_2).f4).length : Int))) then (if (wrap64 ((wrap64 (Int.tmod (IntKind.u64.wrap (((rd_T75 l2 x57_2).f3))) (IntKind.u64.wrap (wrap64 ((t356.size : Int) + 2))))) + (((rd_T75 l2 x57_2).f4).length : Int))) ≤ (t366.size : Int) then (if ((t365.extract 0 ((wrap64 (Int.tmod (IntKind.u64.wrap (((rd_T75 l2 x57_2).f3))) (IntKind.u64.wrap (wrap64 ((t356.size : Int) + 2))))) : Int).toNat) ++ (strOfNums ((rd_T75 l2 x57_2).f4))).size + (t366.extract ((wrap64 ((wrap64 (Int.tmod (IntKind.u64.wrap (((rd_T75 l2 x57_2).f3))) (IntKind.u64.wrap (wrap64 ((t356.size : Int) + 2))))) + (((rd_T75 l2 x57_2).f4).length : Int))) : Int).toNat t366.size).size ≤ 9223372036854775807 then ((darninglaw19_mput.f x8_2 x16_40 (((t365.extract 0 ((wrap64 (Int.tmod (IntKind.u64.wrap (((rd_T75 l2 x57_2).f3))) (IntKind.u64.wrap (wrap64 ((t356.size : Int) + 2))))) : Int).toNat) ++ (strOfNums ((rd_T75 l2 x57_2).f4))) ++ (t366.extract ((wrap64 ((wrap64 (Int.tmod (IntKind.u64.wrap (((rd_T75 l2 x57_2).f3))) (IntKind.u64.wrap (wrap64 ((t356.size : Int) + 2))))) + (((rd_T75 l2 x57_2).f4).length : Int))) : Int).toNat t366.size))).bind fun t367 => (darninglaw19_ImageKeeps.j9 kj113 (wrap64 (1 + (wrap64 (Int.tmod (IntKind.u64.wrap (a0)) 64)))) l1 t362 t367 l2 (l2.length : Int) x57_2)) else (none)) else (none)) else (none))) else (none)) else (none)) else (none))) = some true := H
                 have A125 := Aside0.mk A1250
                 clear A1250
                 replace H := Option.bind_eq_some_iff.mp H
                 obtain ⟨t365, A1260, H⟩ := H
                 replace H : (if 0 ≤ (wrap64 (Int.tmod (IntKind.u64.wrap (((rd_T75 l2 x57_2).f3))) (IntKind.u64.wrap (wrap64 ((t356.size : Int) + 2))))) then (if (wrap64 (Int.tmod (IntKind.u64.wrap (((rd_T75 l2 x57_2).f3))) (IntKind.u64.wrap (wrap64 ((t356.size : Int) + 2))))) ≤ (t365.size : Int) then (if (t365.extract 0 ((wrap64 (Int.tmod (IntKind.u64.wrap (((rd_T75 l2 x57_2).f3))) (IntKind.u64.wrap (wrap64 ((t356.size : Int) + 2))))) : Int).toNat).size + (strOfNums ((rd_T75 l2 x57_2).f4)).size ≤ 9223372036854775807 then ((darninglaw19_mget.f x8_2 x16_40).bind fun t366 => (if 0 ≤ (wrap64 ((wrap64 (Int.tmod (IntKind.u64.wrap (((rd_T75 l2 x57_2).f3))) (IntKind.u64.wrap (wrap64 ((t356.size : Int) + 2))))) + (((rd_T75 l2 x57_2).f4).length : Int))) then (if (wrap64 ((wrap64 (Int.tmod (IntKind.u64.wrap (((rd_T75 l2 x57_2).f3))) (IntKind.u64.wrap (wrap64 ((t356.size : Int) + 2))))) + (((rd_T75 l2 x57_2).f4).length : Int))) ≤ (t366.size : Int) then (if ((t365.extract 0 ((wrap64 (Int.tmod (IntKind.u64.wrap (((rd_T75 l2 x57_2).f3))) (IntKind.u64.wrap (wrap64 ((t356.size : Int) + 2))))) : Int).toNat) ++ (strOfNums ((rd_T75 l2 x57_2).f4))).size + (t366.extract ((wrap64 ((wrap64 (Int.tmod (IntKind.u64.wrap (((rd_T75 l2 x57_2).f3))) (IntKind.u64.wrap (wrap64 ((t356.size : Int) + 2))))) + (((rd_T75 l2 x57_2).f4).length : Int))) : Int).toNat t366.size).size ≤ 9223372036854775807 then ((darninglaw19_mput.f x8_2 x16_40 (((t365.extract 0 ((wrap64 (Int.tmod (IntKind.u64.wrap (((rd_T75 l2 x57_2).f3))) (IntKind.u64.wrap (wrap64 ((t356.size : Int) + 2))))) : Int).toNat) ++ (strOfNums ((rd_T75 l2 x57_2).f4))) ++ (t366.extract ((wrap64 ((wrap64 (Int.tmod (IntKind.u64.wrap (((rd_T75 l2 x57_2).f3))) (IntKind.u64.wrap (wrap64 ((t356.size : Int) + 2))))) + (((rd_T75 l2 x57_2).f4).length : Int))) : Int).toNat t366.size))).bind fun t367 => (darninglaw19_ImageKeeps.j9 kj113 (wrap64 (1 + (wrap64 (Int.tmod (IntKind.u64.wrap (a0)) 64)))) l1 t362 t367 l2 (l2.length : Int) x57_2)) else (none)) else (none)) else (none))) else (none)) else (none)) else (none)) = some true := H
                 have A126 := Aside0.mk A1260
                 clear A1260
                 obtain ⟨ji127, hji127⟩ : ∃ j_ : Int, (wrap64 (Int.tmod (IntKind.u64.wrap (((rd_T75 l2 x57_2).f3))) (IntKind.u64.wrap (wrap64 ((t356.size : Int) + 2))))) = j_ := ⟨_, rfl⟩
                 replace H : (if 0 ≤ (ji127) then (if (ji127) ≤ (t365.size : Int) then (if (t365.extract 0 ((ji127) : Int).toNat).size + (strOfNums ((rd_T75 l2 x57_2).f4)).size ≤ 9223372036854775807 then ((darninglaw19_mget.f x8_2 x16_40).bind fun t366 => (if 0 ≤ (wrap64 ((ji127) + (((rd_T75 l2 x57_2).f4).length : Int))) then (if (wrap64 ((ji127) + (((rd_T75 l2 x57_2).f4).length : Int))) ≤ (t366.size : Int) then (if ((t365.extract 0 ((ji127) : Int).toNat) ++ (strOfNums ((rd_T75 l2 x57_2).f4))).size + (t366.extract ((wrap64 ((ji127) + (((rd_T75 l2 x57_2).f4).length : Int))) : Int).toNat t366.size).size ≤ 9223372036854775807 then ((darninglaw19_mput.f x8_2 x16_40 (((t365.extract 0 ((ji127) : Int).toNat) ++ (strOfNums ((rd_T75 l2 x57_2).f4))) ++ (t366.extract ((wrap64 ((ji127) + (((rd_T75 l2 x57_2).f4).length : Int))) : Int).toNat t366.size))).bind fun t367 => (darninglaw19_ImageKeeps.j9 kj113 (wrap64 (1 + (wrap64 (Int.tmod (IntKind.u64.wrap (a0)) 64)))) l1 t362 t367 l2 (l2.length : Int) x57_2)) else (none)) else (none)) else (none))) else (none)) else (none)) else (none)) = some true := by first | (rw [hji127] at H; exact H) | (simp only [hji127] at H ⊢; exact H)
                 (try rw [hji127] at A125)
                 (try rw [hji127] at A126)
                 have hji127w : (IntKind.i64.wrap (Int.tmod (IntKind.u64.wrap (((rd_T75 l2 x57_2).f3))) (IntKind.u64.wrap (wrap64 ((t356.size : Int) + 2))))) = ji127 := (i64_w _).trans hji127
                 by_cases c128 : 0 ≤ (ji127)
                 rotate_left
                 ·
                  rw [if_neg c128] at H
                  exact absurd H (by simp)
                 rw [if_pos c128] at H
                 have c128b0 := eq_true c128
                 have c128b1 : decide (0 ≤ (ji127)) = true := decide_eq_true c128
                 clear c128
                 by_cases c129 : (ji127) ≤ (t365.size : Int)
                 rotate_left
                 ·
                  rw [if_neg c129] at H
                  exact absurd H (by simp)
                 rw [if_pos c129] at H
                 have c129b0 := eq_true c129
                 have c129b1 : decide ((ji127) ≤ (t365.size : Int)) = true := decide_eq_true c129
                 clear c129
                 by_cases c130 : (t365.extract 0 ((ji127) : Int).toNat).size + (strOfNums ((rd_T75 l2 x57_2).f4)).size ≤ 9223372036854775807
                 rotate_left
                 ·
                  rw [if_neg c130] at H
                  exact absurd H (by simp)
                 rw [if_pos c130] at H
                 have c130b0 := eq_true c130
                 have c130b1 : decide ((t365.extract 0 ((ji127) : Int).toNat).size + (strOfNums ((rd_T75 l2 x57_2).f4)).size ≤ 9223372036854775807) = true := decide_eq_true c130
                 try have c130b2 : (9223372036854775807 < (t365.extract 0 ((ji127) : Int).toNat).size + (strOfNums ((rd_T75 l2 x57_2).f4)).size) = False := eq_false (Nat.not_lt.2 c130)
                 replace H := Option.bind_eq_some_iff.mp H
                 obtain ⟨t366, A1310, H⟩ := H
                 replace H : (if 0 ≤ (wrap64 ((ji127) + (((rd_T75 l2 x57_2).f4).length : Int))) then (if (wrap64 ((ji127) + (((rd_T75 l2 x57_2).f4).length : Int))) ≤ (t366.size : Int) then (if ((t365.extract 0 ((ji127) : Int).toNat) ++ (strOfNums ((rd_T75 l2 x57_2).f4))).size + (t366.extract ((wrap64 ((ji127) + (((rd_T75 l2 x57_2).f4).length : Int))) : Int).toNat t366.size).size ≤ 9223372036854775807 then ((darninglaw19_mput.f x8_2 x16_40 (((t365.extract 0 ((ji127) : Int).toNat) ++ (strOfNums ((rd_T75 l2 x57_2).f4))) ++ (t366.extract ((wrap64 ((ji127) + (((rd_T75 l2 x57_2).f4).length : Int))) : Int).toNat t366.size))).bind fun t367 => (darninglaw19_ImageKeeps.j9 kj113 (wrap64 (1 + (wrap64 (Int.tmod (IntKind.u64.wrap (a0)) 64)))) l1 t362 t367 l2 (l2.length : Int) x57_2)) else (none)) else (none)) else (none)) = some true := H
                 have A131 := Aside0.mk A1310
                 clear A1310
                 obtain ⟨ji132, hji132⟩ : ∃ j_ : Int, (wrap64 ((ji127) + (((rd_T75 l2 x57_2).f4).length : Int))) = j_ := ⟨_, rfl⟩
                 replace H : (if 0 ≤ (ji132) then (if (ji132) ≤ (t366.size : Int) then (if ((t365.extract 0 ((ji127) : Int).toNat) ++ (strOfNums ((rd_T75 l2 x57_2).f4))).size + (t366.extract ((ji132) : Int).toNat t366.size).size ≤ 9223372036854775807 then ((darninglaw19_mput.f x8_2 x16_40 (((t365.extract 0 ((ji127) : Int).toNat) ++ (strOfNums ((rd_T75 l2 x57_2).f4))) ++ (t366.extract ((ji132) : Int).toNat t366.size))).bind fun t367 => (darninglaw19_ImageKeeps.j9 kj113 (wrap64 (1 + (wrap64 (Int.tmod (IntKind.u64.wrap (a0)) 64)))) l1 t362 t367 l2 (l2.length : Int) x57_2)) else (none)) else (none)) else (none)) = some true := by first | (rw [hji132] at H; exact H) | (simp only [hji132] at H ⊢; exact H)
                 (try rw [hji132] at A125)
                 (try rw [hji132] at A126)
                 (try rw [hji132] at A131)
                 have hji132w : (IntKind.i64.wrap ((ji127) + (((rd_T75 l2 x57_2).f4).length : Int))) = ji132 := (i64_w _).trans hji132
                 by_cases c133 : 0 ≤ (ji132)
                 rotate_left
                 ·
                  rw [if_neg c133] at H
                  exact absurd H (by simp)
                 rw [if_pos c133] at H
                 have c133b0 := eq_true c133
                 have c133b1 : decide (0 ≤ (ji132)) = true := decide_eq_true c133
                 clear c133
                 by_cases c134 : (ji132) ≤ (t366.size : Int)
                 rotate_left
                 ·
                  rw [if_neg c134] at H
                  exact absurd H (by simp)
                 rw [if_pos c134] at H
                 have c134b0 := eq_true c134
                 have c134b1 : decide ((ji132) ≤ (t366.size : Int)) = true := decide_eq_true c134
                 clear c134
                 by_cases c135 : ((t365.extract 0 ((ji127) : Int).toNat) ++ (strOfNums ((rd_T75 l2 x57_2).f4))).size + (t366.extract ((ji132) : Int).toNat t366.size).size ≤ 9223372036854775807
                 rotate_left
                 ·
                  rw [if_neg c135] at H
                  exact absurd H (by simp)
                 rw [if_pos c135] at H
                 have c135b0 := eq_true c135
                 have c135b1 : decide (((t365.extract 0 ((ji127) : Int).toNat) ++ (strOfNums ((rd_T75 l2 x57_2).f4))).size + (t366.extract ((ji132) : Int).toNat t366.size).size ≤ 9223372036854775807) = true := decide_eq_true c135
                 try have c135b2 : (9223372036854775807 < ((t365.extract 0 ((ji127) : Int).toNat) ++ (strOfNums ((rd_T75 l2 x57_2).f4))).size + (t366.extract ((ji132) : Int).toNat t366.size).size) = False := eq_false (Nat.not_lt.2 c135)
                 replace H := Option.bind_eq_some_iff.mp H
                 obtain ⟨t367, A1360, H⟩ := H
                 replace H : (darninglaw19_ImageKeeps.j9 kj113 (wrap64 (1 + (wrap64 (Int.tmod (IntKind.u64.wrap (a0)) 64)))) l1 t362 t367 l2 (l2.length : Int) x57_2) = some true := H
                 have A136 := Aside0.mk A1360
                 clear A1360
                 as_aux_lemma =>
                  have H' := Aside0.mk H
                  clear H
                  obtain ⟨Ao137, co137, eo137⟩ := Kd.R_slice HO_28.out
                  subst eo137
                  try go_wp2_with (first | ((with_reducible refine gate_callee (f := 34) rfl ?_); refine goesL_ (some 264) rfl rfl Try.func34 (by kernel_rfl) rfl #[.slice Ao22 x7_2.length co22, .slice Ao137 t357.length co137] rfl (by (try simp only [List.map_toArray, List.map_cons, List.map_nil]); first | done | rfl | (simp only [List.length_drop, List.length_take]; rfl)) ?_; (with_reducible refine (darningref4_Apply.calls kj113 _ _ x7_2 _ _ t357 t362 _ ?side1 ?side2 ?side3 ?side4 A125.out).mono ?_); (case side1 => repeat (first | exact (Kd.R_reads' HO_7.out).2.2 | (with_reducible refine Kd.C_alloc ?_ _) | (with_reducible refine Kd.C_drewN ?_ _) | (with_reducible refine Kd.C_drew ?_))); (case side2 => exact (Kd.R_reads' HO_7.out).2.1); (case side3 => repeat (first | exact (Kd.R_reads' HO_28.out).2.2 | (with_reducible refine Kd.C_alloc ?_ _) | (with_reducible refine Kd.C_drewN ?_ _) | (with_reducible refine Kd.C_drew ?_))); (case side4 => exact (Kd.R_reads' HO_28.out).2.1); rintro e w138 ⟨v363, rfl, ho0, hb⟩; refine ⟨_, rfl, ?_⟩; have n0_ := Aside0.mk (Kd.R_elder' (by (with_reducible repeat (first | apply Kd.R_alloc | apply Kd.R_drewN | apply Kd.R_drew)); exact HO_7.out) (Kd.R_base ho0) hb); have n1_ := Aside0.mk (MR_below (by (with_reducible repeat (first | apply MR_alloc | apply MR_drewN | apply MR_drew)); exact HO_8.out) hb); have n2_ := Aside0.mk (Kd.R_below (by (with_reducible repeat (first | apply Kd.R_alloc | apply Kd.R_drewN | apply Kd.R_drew)); exact HO_28.out) hb); have n3_ := Aside0.mk (Kd.R_lower (Kd.R_new' ho0 (Kd.R_lt (by (with_reducible repeat (first | apply Kd.R_alloc | apply Kd.R_drewN | apply Kd.R_drew)); exact HO_7.out))) (below_size (by repeat (first | (with_reducible first | exact HB.out | apply below_alloc | apply pw_below_drewN | apply below_drew1 | refine below_set ?_ GE310.out) | exact HB.out)))); have n4_ := Aside0.mk (blk_below (g := gb310) (o := .cells #[.int .i64 ((rd_T75 l2 x57_2).f0), .int .i64 ((rd_T75 l2 x57_2).f1), .int .i64 ((rd_T75 l2 x57_2).f2), .int .i64 ((rd_T75 l2 x57_2).f3), .slice A309_4 ((rd_T75 l2 x57_2).f4).length c309_4] 75 (0, 0)) (by (with_reducible repeat (first | refine blk_drewN ?_ _ | refine blk_drew ?_ | refine blk_alloc ?_ _)); exact BK310.out) hb); have n5_ := Aside0.mk (below_step (by repeat (first | (with_reducible first | exact HB.out | apply below_alloc | apply pw_below_drewN | apply below_drew1 | refine below_set ?_ GE310.out) | exact HB.out)) hb); clear HO_7; clear HO_8; clear HO_28; clear BK310; clear HB; have HO_7 := n0_; have HO_8 := n1_; have HO_28 := n2_; have HO364 := n3_; have BK310 := n4_; have HB := n5_; clear n0_ n1_ n2_ n3_ n4_ n5_; (try clear hb); (try clear hb2); (try clear hk); (try clear hi); (try clear ho0)))
                  have n0_ := Aside0.mk (Kd.R_drew HO_7.out)
                  have n1_ := Aside0.mk (MR_drew HO_8.out)
                  have n2_ := Aside0.mk (Kd.R_drew HO_28.out)
                  have n3_ := Aside0.mk (Kd.R_drew HO364.out)
                  have n4_ := Aside0.mk (blk_drew BK310.out)
                  have n5_ := Aside0.mk (below_drew1 HB.out)
                  clear HO_7
                  clear HO_8
                  clear HO_28
                  clear HO364
                  clear BK310
                  clear HB
                  have HO_7 := n0_
                  have HO_8 := n1_
                  have HO_28 := n2_
                  have HO364 := n3_
                  have BK310 := n4_
                  have HB := n5_
                  clear n0_ n1_ n2_ n3_ n4_ n5_
                  have hcv140 := Kd.C_string (P := Try.prog) (A := A309_4) (c := c309_4) Try.underlying63 Try.underlying5 Try.underlying9 (Kd.C_below HR309_4.out HB.out)
                  refine start_ (n := 25) (S := fun w' => True) (ds := []) (onA 25 0) (by kernel_rfl) rfl rfl trivial (fun hHeld => ?_); refine with_tabW darninglaw19_ImageKeeps.tab50 darninglaw19_ImageKeeps.bits50 (fun HT_ HW_ => ?_)
                  generalize w138.drew = w139 at HO_7 HO_8 HO_28 HO364 BK310 HB hHeld ⊢
                  refine pure_ (i := 0) (N := some 265) (v := ?_) (a' := ?_) (onA 25 1) rfl rfl (any_of HT_.out (by kernel_rfl)) (fun _ _ _ h => h) (Or.inl ⟨by rfl, ?_⟩) ?_ ?_
                  rotate_left
                  ·
                   intro w'
                   go_simp
                   with_reducible rfl
                  rotate_left
                  ·
                   simp only [Act.put, List.setIfInBounds_toArray, List.set_cons_zero, List.set_cons_succ, i64_w, i32_w]
                   rfl
                  refine pure_ (i := 1) (N := some 266) (v := ?_) (a' := ?_) (onA 25 2) rfl rfl (any_of HT_.out (by kernel_rfl)) (fun _ _ _ h => h) (Or.inl ⟨by rfl, ?_⟩) ?_ ?_
                  rotate_left
                  ·
                   intro w'
                   go_simp
                   with_reducible rfl
                  rotate_left
                  ·
                   simp only [Act.put, List.setIfInBounds_toArray, List.set_cons_zero, List.set_cons_succ, i64_w, i32_w]
                   rfl
                  refine pure_ (i := 2) (N := some 267) (v := ?_) (a' := ?_) (onA 25 3) rfl rfl (any_of HT_.out (by kernel_rfl)) (fun _ _ _ h => h) (Or.inl ⟨by rfl, ?_⟩) ?_ ?_
                  rotate_left
                  ·
                   intro w'
                   go_simp
                   with_reducible rfl
                  rotate_left
                  ·
                   simp only [Act.put, List.setIfInBounds_toArray, List.set_cons_zero, List.set_cons_succ, i64_w, i32_w]
                   rfl
                  refine pure_ (i := 3) (N := some 268) (v := ?_) (a' := ?_) (onA 25 4) rfl rfl (any_of HT_.out (by kernel_rfl)) (fun _ _ _ h => h) (Or.inl ⟨by rfl, ?_⟩) ?_ ?_
                  rotate_left
                  ·
                   intro w'
                   go_simp
                   with_reducible rfl
                  rotate_left
                  ·
                   simp only [Act.put, List.setIfInBounds_toArray, List.set_cons_zero, List.set_cons_succ, i64_w, i32_w]
                   rfl
                  refine pure_ (i := 6) (N := some 271) (v := ?_) (a' := ?_) #[tt_, tt_, tt_, tt_, ff_, ff_, tt_, ff_, ff_, ff_, ff_, ff_, ff_, ff_, ff_, ff_, ff_, ff_, ff_, ff_, ff_, ff_, ff_, ff_, ff_] rfl rfl (any_of HT_.out (by kernel_rfl)) (fun _ _ _ h => h) (Or.inl ⟨by rfl, ?_⟩) ?_ ?_
                  rotate_left
                  ·
                   intro w'
                   go_simp
                   with_reducible rfl
                  rotate_left
                  ·
                   simp only [Act.put, List.setIfInBounds_toArray, List.set_cons_zero, List.set_cons_succ, i64_w, i32_w]
                   rfl
                  refine pure_ (i := 8) (N := some 273) (v := ?_) (a' := ?_) #[tt_, tt_, tt_, tt_, ff_, ff_, tt_, ff_, tt_, ff_, ff_, ff_, ff_, ff_, ff_, ff_, ff_, ff_, ff_, ff_, ff_, ff_, ff_, ff_, ff_] rfl rfl (any_of HT_.out (by kernel_rfl)) (fun _ _ _ h => h) (Or.inl ⟨by rfl, ?_⟩) ?_ ?_
                  rotate_left
                  ·
                   intro w'
                   go_simp
                   with_reducible rfl
                  rotate_left
                  ·
                   simp only [Act.put, List.setIfInBounds_toArray, List.set_cons_zero, List.set_cons_succ, i64_w, i32_w]
                   rfl
                  refine pure_ (i := 12) (N := some 277) (v := ?_) (a' := ?_) #[tt_, tt_, tt_, tt_, ff_, ff_, tt_, ff_, tt_, ff_, ff_, ff_, tt_, ff_, ff_, ff_, ff_, ff_, ff_, ff_, ff_, ff_, ff_, ff_, ff_] rfl rfl (any_of HT_.out (by kernel_rfl)) (fun _ _ _ h => h) (Or.inl ⟨by rfl, ?_⟩) ?_ ?_
                  rotate_left
                  ·
                   intro w'
                   go_simp
                   with_reducible rfl
                  rotate_left
                  ·
                   simp only [Act.put, List.setIfInBounds_toArray, List.set_cons_zero, List.set_cons_succ, i64_w, i32_w]
                   rfl
                  refine pure_ (i := 13) (N := some 278) (v := ?_) (a' := ?_) #[tt_, tt_, tt_, tt_, ff_, ff_, tt_, ff_, tt_, ff_, ff_, ff_, tt_, tt_, ff_, ff_, ff_, ff_, ff_, ff_, ff_, ff_, ff_, ff_, ff_] rfl rfl (any_of HT_.out (by kernel_rfl)) (fun _ _ _ h => h) (Or.inl ⟨by rfl, ?_⟩) ?_ ?_
                  rotate_left
                  ·
                   intro w'
                   go_simp
                   with_reducible rfl
                  rotate_left
                  ·
                   simp only [Act.put, List.setIfInBounds_toArray, List.set_cons_zero, List.set_cons_succ, i64_w, i32_w]
                   rfl
                  refine pure_ (i := 16) (N := some 281) (v := ?_) (a' := ?_) #[tt_, tt_, tt_, tt_, ff_, ff_, tt_, ff_, tt_, ff_, ff_, ff_, tt_, tt_, ff_, ff_, tt_, ff_, ff_, ff_, ff_, ff_, ff_, ff_, ff_] rfl rfl (any_of HT_.out (by kernel_rfl)) (fun _ _ _ h => h) (Or.inl ⟨by rfl, ?_⟩) ?_ ?_
                  rotate_left
                  ·
                   intro w'
                   go_simp
                   with_reducible rfl
                  rotate_left
                  ·
                   simp only [Act.put, List.setIfInBounds_toArray, List.set_cons_zero, List.set_cons_succ, i64_w, i32_w]
                   rfl
                  refine pure_ (i := 17) (N := some 282) (v := ?_) (a' := ?_) #[tt_, tt_, tt_, tt_, ff_, ff_, tt_, ff_, tt_, ff_, ff_, ff_, tt_, tt_, ff_, ff_, tt_, tt_, ff_, ff_, ff_, ff_, ff_, ff_, ff_] rfl rfl (any_of HT_.out (by kernel_rfl)) (fun _ _ _ h => h) (Or.inl ⟨by rfl, ?_⟩) ?_ ?_
                  rotate_left
                  ·
                   intro w'
                   go_simp
                   with_reducible rfl
                  rotate_left
                  ·
                   simp only [Act.put, List.setIfInBounds_toArray, List.set_cons_zero, List.set_cons_succ, i64_w, i32_w]
                   rfl
                  refine inv_at [4, 5, 7, 9, 10, 11, 14, 15, 18, 19, 20, 21, 22, 23, 24] (fun a0_ b a w' => ∃ (v368 : Value), a = putSel a0_ b [(4, 269, .agg #[.string t365]), (5, 270, .string t365), (7, 272, .string (t365.extract 0 ((ji127) : Int).toNat)), (9, 274, .slice A309_4 ((rd_T75 l2 x57_2).f4).length c309_4), (10, 275, .string (strOfNums ((rd_T75 l2 x57_2).f4))), (11, 276, .string ((t365.extract 0 ((ji127) : Int).toNat) ++ (strOfNums ((rd_T75 l2 x57_2).f4)))), (14, 279, .agg #[.string t366]), (15, 280, .string t366), (18, 283, .slice A309_4 ((rd_T75 l2 x57_2).f4).length c309_4), (19, 284, .int .i64 (((rd_T75 l2 x57_2).f4).length : Int)), (20, 285, .int .i64 ji132), (21, 286, .string (t366.extract ((ji132) : Int).toNat t366.size)), (22, 287, .string (((t365.extract 0 ((ji127) : Int).toNat) ++ (strOfNums ((rd_T75 l2 x57_2).f4))) ++ (t366.extract ((ji132) : Int).toNat t366.size))), (23, 288, .agg #[.string (((t365.extract 0 ((ji127) : Int).toNat) ++ (strOfNums ((rd_T75 l2 x57_2).f4))) ++ (t366.extract ((ji132) : Int).toNat t366.size))])] ∧ (Kd.R (Kd.int .u64) 28 w' w.heap.size (fun k_ => some k_ ≠ (.slice Ao22 x7_2.length co22 : Value).ownBlock) v363 t362) ∧ (Kd.R k30 30 w' w.heap.size (fun _ => True) (.slice Ao137 t357.length co137) t357) ∧ (Kd.R (Kd.int .u64) 28 w' w.heap.size (fun k_ => some k_ ≠ (v363 : Value).ownBlock) (.slice Ao22 x7_2.length co22) x7_2) ∧ (b 24 = false → MR w' w.heap.size (fun _ => True) (.map (some mbH)) x8_2) ∧ (w'.heap[gb310]? = some (.cells #[.int .i64 ((rd_T75 l2 x57_2).f0), .int .i64 ((rd_T75 l2 x57_2).f1), .int .i64 ((rd_T75 l2 x57_2).f2), .int .i64 ((rd_T75 l2 x57_2).f3), .slice A309_4 ((rd_T75 l2 x57_2).f4).length c309_4] 75 (0, 0))) ∧ (Below w.heap.size w w') ∧ (b 24 = true → MR w' w.heap.size (fun _ => True) (.map (some mbH)) t367)) HT_.out HW_.out (by kernel_rfl) (by kernel_rfl) ?_ ?_ ?_
                  ·
                   exact ⟨.bool false, by simp only [putSel, Bool.false_eq_true, if_false], Kd.R_mono HO364.out (fun _ hk => by first | exact hk | exact hk.2 | exact ⟨trivial, hk⟩), Kd.R_mono HO_28.out (fun _ hk => by first | exact hk | exact hk.2 | exact ⟨trivial, hk⟩), Kd.R_mono HO_7.out (fun _ hk => by first | exact hk | exact hk.2 | exact ⟨trivial, hk⟩), (fun _ => HO_8.out), BK310.out, HB.out, fun h_ => absurd h_ (by decide)⟩
                  ·
                   skip
                   clear BK310 HB HO364 HO_28 HO_7 HO_8
                   refine steps_cons ?_ ?_
                   ·
                    rintro b a w' ⟨v368, ha, Q_HO364, Q_HO_28, Q_HO_7, Q_HO_8, Q_BK310, Q_HB, Q_HO369⟩ hb_ hon hoff
                    refine ⟨_, rfl, fun K hK => ?_⟩
                    have e267 : a.tmps[267]? = some (.map (some mbH)) := by rw [ha]; exact (putSel_off rfl).trans rfl
                    have e268 : a.tmps[268]? = some (.int .i64 x16_40) := by rw [ha]; exact (putSel_off rfl).trans rfl
                    replace ha := Aside0.mk ha
                    have HO364 := Aside0.mk Q_HO364
                    have HO_28 := Aside0.mk Q_HO_28
                    have HO_7 := Aside0.mk Q_HO_7
                    have HO_8 := Aside0.mk (Q_HO_8 (hoff 24 (by kernel_rfl)))
                    have BK310 := Aside0.mk Q_BK310
                    have HB := Aside0.mk Q_HB
                    refine step_look (by rfl) rfl (.tmp 267) (.tmp 268) rfl (by first | (simp only [Act.eval, Array.getD_eq_getD_getElem?, Option.getD_some, e267]; done) | (simp only [Act.eval, Array.getD_eq_getD_getElem?, Option.getD_some, e267]; rfl)) HO_8.out (by first | (simp only [Act.eval, Array.getD_eq_getD_getElem?, Option.getD_some, e268]; done) | (simp only [Act.eval, Array.getD_eq_getD_getElem?, Option.getD_some, e268]; rfl)) A126.out ?_
                    intro w141 hb
                    have n0_ := Aside0.mk (Kd.R_below (by (with_reducible repeat (first | apply Kd.R_alloc | apply Kd.R_drewN | apply Kd.R_drew)); exact HO_7.out) hb)
                    have n1_ := Aside0.mk (MR_below (by (with_reducible repeat (first | apply MR_alloc | apply MR_drewN | apply MR_drew)); exact HO_8.out) hb)
                    have n2_ := Aside0.mk (Kd.R_below (by (with_reducible repeat (first | apply Kd.R_alloc | apply Kd.R_drewN | apply Kd.R_drew)); exact HO_28.out) hb)
                    have n3_ := Aside0.mk (Kd.R_below (by (with_reducible repeat (first | apply Kd.R_alloc | apply Kd.R_drewN | apply Kd.R_drew)); exact HO364.out) hb)
                    have n4_ := Aside0.mk (blk_below (g := gb310) (o := .cells #[.int .i64 ((rd_T75 l2 x57_2).f0), .int .i64 ((rd_T75 l2 x57_2).f1), .int .i64 ((rd_T75 l2 x57_2).f2), .int .i64 ((rd_T75 l2 x57_2).f3), .slice A309_4 ((rd_T75 l2 x57_2).f4).length c309_4] 75 (0, 0)) (by (with_reducible repeat (first | refine blk_drewN ?_ _ | refine blk_drew ?_ | refine blk_alloc ?_ _)); exact BK310.out) hb)
                    have n5_ := Aside0.mk (below_step (by repeat (first | (with_reducible first | exact HB.out | apply below_alloc | apply pw_below_drewN | apply below_drew1 | refine below_set ?_ GE310.out) | exact HB.out)) hb)
                    clear HO_7
                    clear HO_8
                    clear HO_28
                    clear HO364
                    clear BK310
                    clear HB
                    have HO_7 := n0_
                    have HO_8 := n1_
                    have HO_28 := n2_
                    have HO364 := n3_
                    have BK310 := n4_
                    have HB := n5_
                    clear n0_ n1_ n2_ n3_ n4_ n5_
                    (try clear hb)
                    (try clear hb2)
                    (try clear hk)
                    (try clear hi)
                    refine hK.out _ _ ⟨v368, (by rw [ha.out]; exact putSel_upk 0 hb_ rfl rfl rfl), (by (with_reducible repeat (first | apply Kd.R_alloc | apply Kd.R_drewN | apply Kd.R_drew)); exact Kd.R_mono HO364.out (fun _ hk => by first | exact hk | exact hk.2 | exact ⟨trivial, hk⟩)), (by (with_reducible repeat (first | apply Kd.R_alloc | apply Kd.R_drewN | apply Kd.R_drew)); exact HO_28.out), (by (with_reducible repeat (first | apply Kd.R_alloc | apply Kd.R_drewN | apply Kd.R_drew)); exact Kd.R_mono HO_7.out (fun _ hk => by first | exact hk | exact hk.2 | exact ⟨trivial, hk⟩)), (fun _ => (by (with_reducible repeat (first | apply MR_alloc | apply MR_drewN | apply MR_drew)); exact HO_8.out)), (by (with_reducible repeat (first | refine blk_drewN ?_ _ | refine blk_drew ?_ | refine blk_alloc ?_ _)); exact BK310.out), (by repeat (first | (with_reducible first | exact HB.out | apply below_alloc | apply pw_below_drewN | apply below_drew1 | refine below_set ?_ GE310.out) | exact HB.out)), fun h0_ => absurd ((hoff 24 (by kernel_rfl)).symm.trans h0_) (by decide)⟩
                   refine steps_cons ?_ ?_
                   ·
                    rintro b a w' ⟨v368, ha, Q_HO364, Q_HO_28, Q_HO_7, Q_HO_8, Q_BK310, Q_HB, Q_HO369⟩ hb_ hon hoff
                    refine ⟨_, rfl, fun K hK => ?_⟩
                    have e269 : a.tmps[269]? = some (.agg #[.string t365]) := by rw [ha]; exact putSel_on (e := (4, 269, .agg #[.string t365])) 0 rfl rfl (hon 4 (by kernel_rfl)) rfl
                    replace ha := Aside0.mk ha
                    have HO364 := Aside0.mk Q_HO364
                    have HO_28 := Aside0.mk Q_HO_28
                    have HO_7 := Aside0.mk Q_HO_7
                    have HO_8 := Aside0.mk (Q_HO_8 (hoff 24 (by kernel_rfl)))
                    have BK310 := Aside0.mk Q_BK310
                    have HB := Aside0.mk Q_HB
                    refine value_ (w1 := w') (v := .string t365) (by rfl) rfl ?_ ?_
                    ·
                     go_simp
                     (try simp only [i64_w])
                     first | rfl | done | (have zc129_ := of_eq_true c129b0; have zc130_ := of_eq_true c130b0; have zc134_ := of_eq_true c134b0; have zc135_ := of_eq_true c135b0; simp only [ByteArray.size_extract, ByteArray.size_append] at zc129_ zc130_ zc134_ zc135_; omega) | skip
                    refine hK.out _ _ ⟨v368, (by rw [ha.out]; exact putSel_upk 1 hb_ rfl rfl rfl), Q_HO364, Q_HO_28, Q_HO_7, Q_HO_8, Q_BK310, Q_HB, fun h0_ => absurd ((hoff 24 (by kernel_rfl)).symm.trans h0_) (by decide)⟩
                   refine steps_cons ?_ ?_
                   ·
                    rintro b a w' ⟨v368, ha, Q_HO364, Q_HO_28, Q_HO_7, Q_HO_8, Q_BK310, Q_HB, Q_HO369⟩ hb_ hon hoff
                    refine ⟨_, rfl, fun K hK => ?_⟩
                    have e270 : a.tmps[270]? = some (.string t365) := by rw [ha]; exact putSel_on (e := (5, 270, .string t365)) 1 rfl rfl (hon 5 (by kernel_rfl)) rfl
                    have e271 : a.tmps[271]? = some (.int .i64 (ji127)) := by rw [ha]; exact (putSel_off rfl).trans rfl
                    replace ha := Aside0.mk ha
                    have HO364 := Aside0.mk Q_HO364
                    have HO_28 := Aside0.mk Q_HO_28
                    have HO_7 := Aside0.mk Q_HO_7
                    have HO_8 := Aside0.mk (Q_HO_8 (hoff 24 (by kernel_rfl)))
                    have BK310 := Aside0.mk Q_BK310
                    have HB := Aside0.mk Q_HB
                    refine value_ (w1 := w') (v := .string (t365.extract 0 ((ji127) : Int).toNat)) (by rfl) rfl ?_ ?_
                    ·
                     go_simp
                     (try simp only [i64_w])
                     first | rfl | done | (have zc129_ := of_eq_true c129b0; have zc130_ := of_eq_true c130b0; have zc134_ := of_eq_true c134b0; have zc135_ := of_eq_true c135b0; simp only [ByteArray.size_extract, ByteArray.size_append] at zc129_ zc130_ zc134_ zc135_; omega) | skip
                    refine hK.out _ _ ⟨v368, (by rw [ha.out]; exact putSel_upk 2 hb_ rfl rfl rfl), Q_HO364, Q_HO_28, Q_HO_7, Q_HO_8, Q_BK310, Q_HB, fun h0_ => absurd ((hoff 24 (by kernel_rfl)).symm.trans h0_) (by decide)⟩
                   refine steps_cons ?_ ?_
                   ·
                    rintro b a w' ⟨v368, ha, Q_HO364, Q_HO_28, Q_HO_7, Q_HO_8, Q_BK310, Q_HB, Q_HO369⟩ hb_ hon hoff
                    refine ⟨_, rfl, fun K hK => ?_⟩
                    have e273 : a.tmps[273]? = some (.pointer (some ⟨gb310, 4, none⟩)) := by rw [ha]; exact (putSel_off rfl).trans rfl
                    replace ha := Aside0.mk ha
                    have HO364 := Aside0.mk Q_HO364
                    have HO_28 := Aside0.mk Q_HO_28
                    have HO_7 := Aside0.mk Q_HO_7
                    have HO_8 := Aside0.mk (Q_HO_8 (hoff 24 (by kernel_rfl)))
                    have BK310 := Aside0.mk Q_BK310
                    have HB := Aside0.mk Q_HB
                    have hc0_ : w'.cell? ⟨gb310, 0, none⟩ = some (.int .i64 ((rd_T75 l2 x57_2).f0)) := (blk_cell BK310.out 0).trans rfl
                    have hc1_ : w'.cell? ⟨gb310, 1, none⟩ = some (.int .i64 ((rd_T75 l2 x57_2).f1)) := (blk_cell BK310.out 1).trans rfl
                    have hc2_ : w'.cell? ⟨gb310, 2, none⟩ = some (.int .i64 ((rd_T75 l2 x57_2).f2)) := (blk_cell BK310.out 2).trans rfl
                    have hc3_ : w'.cell? ⟨gb310, 3, none⟩ = some (.int .i64 ((rd_T75 l2 x57_2).f3)) := (blk_cell BK310.out 3).trans rfl
                    have hc4_ : w'.cell? ⟨gb310, 4, none⟩ = some (.slice A309_4 ((rd_T75 l2 x57_2).f4).length c309_4) := (blk_cell BK310.out 4).trans rfl
                    refine value_ (w1 := w') (v := .slice A309_4 ((rd_T75 l2 x57_2).f4).length c309_4) (by rfl) rfl ?_ ?_
                    ·
                     go_simp
                     (try simp only [i64_w])
                     first | rfl | done | (have zc129_ := of_eq_true c129b0; have zc130_ := of_eq_true c130b0; have zc134_ := of_eq_true c134b0; have zc135_ := of_eq_true c135b0; simp only [ByteArray.size_extract, ByteArray.size_append] at zc129_ zc130_ zc134_ zc135_; omega) | skip
                    refine hK.out _ _ ⟨v368, (by rw [ha.out]; exact putSel_upk 3 hb_ rfl rfl rfl), Q_HO364, Q_HO_28, Q_HO_7, Q_HO_8, Q_BK310, Q_HB, fun h0_ => absurd ((hoff 24 (by kernel_rfl)).symm.trans h0_) (by decide)⟩
                   refine steps_cons ?_ ?_
                   ·
                    rintro b a w' ⟨v368, ha, Q_HO364, Q_HO_28, Q_HO_7, Q_HO_8, Q_BK310, Q_HB, Q_HO369⟩ hb_ hon hoff
                    refine ⟨_, rfl, fun K hK => ?_⟩
                    have e274 : a.tmps[274]? = some (.slice A309_4 ((rd_T75 l2 x57_2).f4).length c309_4) := by rw [ha]; exact putSel_on (e := (9, 274, .slice A309_4 ((rd_T75 l2 x57_2).f4).length c309_4)) 3 rfl rfl (hon 9 (by kernel_rfl)) rfl
                    replace ha := Aside0.mk ha
                    have HO364 := Aside0.mk Q_HO364
                    have HO_28 := Aside0.mk Q_HO_28
                    have HO_7 := Aside0.mk Q_HO_7
                    have HO_8 := Aside0.mk (Q_HO_8 (hoff 24 (by kernel_rfl)))
                    have BK310 := Aside0.mk Q_BK310
                    have HB := Aside0.mk Q_HB
                    have hcv_ := Kd.C_string (P := Try.prog) (A := A309_4) (c := c309_4) Try.underlying63 Try.underlying5 Try.underlying9 (Kd.C_below HR309_4.out HB.out)
                    refine value_ (w1 := w') (v := .string (strOfNums ((rd_T75 l2 x57_2).f4))) (by rfl) rfl ?_ ?_
                    ·
                     go_simp
                     (try simp only [i64_w])
                     first | rfl | done | (have zc129_ := of_eq_true c129b0; have zc130_ := of_eq_true c130b0; have zc134_ := of_eq_true c134b0; have zc135_ := of_eq_true c135b0; simp only [ByteArray.size_extract, ByteArray.size_append] at zc129_ zc130_ zc134_ zc135_; omega) | skip
                    refine hK.out _ _ ⟨v368, (by rw [ha.out]; exact putSel_upk 4 hb_ rfl rfl rfl), Q_HO364, Q_HO_28, Q_HO_7, Q_HO_8, Q_BK310, Q_HB, fun h0_ => absurd ((hoff 24 (by kernel_rfl)).symm.trans h0_) (by decide)⟩
                   refine steps_cons ?_ ?_
                   ·
                    rintro b a w' ⟨v368, ha, Q_HO364, Q_HO_28, Q_HO_7, Q_HO_8, Q_BK310, Q_HB, Q_HO369⟩ hb_ hon hoff
                    refine ⟨_, rfl, fun K hK => ?_⟩
                    have e272 : a.tmps[272]? = some (.string (t365.extract 0 ((ji127) : Int).toNat)) := by rw [ha]; exact putSel_on (e := (7, 272, .string (t365.extract 0 ((ji127) : Int).toNat))) 2 rfl rfl (hon 7 (by kernel_rfl)) rfl
                    have e275 : a.tmps[275]? = some (.string (strOfNums ((rd_T75 l2 x57_2).f4))) := by rw [ha]; exact putSel_on (e := (10, 275, .string (strOfNums ((rd_T75 l2 x57_2).f4)))) 4 rfl rfl (hon 10 (by kernel_rfl)) rfl
                    replace ha := Aside0.mk ha
                    have HO364 := Aside0.mk Q_HO364
                    have HO_28 := Aside0.mk Q_HO_28
                    have HO_7 := Aside0.mk Q_HO_7
                    have HO_8 := Aside0.mk (Q_HO_8 (hoff 24 (by kernel_rfl)))
                    have BK310 := Aside0.mk Q_BK310
                    have HB := Aside0.mk Q_HB
                    refine value_ (w1 := w') (v := .string ((t365.extract 0 ((ji127) : Int).toNat) ++ (strOfNums ((rd_T75 l2 x57_2).f4)))) (by rfl) rfl ?_ ?_
                    ·
                     go_simp
                     (try simp only [i64_w])
                     first | rfl | done | (have zc129_ := of_eq_true c129b0; have zc130_ := of_eq_true c130b0; have zc134_ := of_eq_true c134b0; have zc135_ := of_eq_true c135b0; simp only [ByteArray.size_extract, ByteArray.size_append] at zc129_ zc130_ zc134_ zc135_; omega) | skip
                    refine hK.out _ _ ⟨v368, (by rw [ha.out]; exact putSel_upk 5 hb_ rfl rfl rfl), Q_HO364, Q_HO_28, Q_HO_7, Q_HO_8, Q_BK310, Q_HB, fun h0_ => absurd ((hoff 24 (by kernel_rfl)).symm.trans h0_) (by decide)⟩
                   refine steps_cons ?_ ?_
                   ·
                    rintro b a w' ⟨v368, ha, Q_HO364, Q_HO_28, Q_HO_7, Q_HO_8, Q_BK310, Q_HB, Q_HO369⟩ hb_ hon hoff
                    refine ⟨_, rfl, fun K hK => ?_⟩
                    have e277 : a.tmps[277]? = some (.map (some mbH)) := by rw [ha]; exact (putSel_off rfl).trans rfl
                    have e278 : a.tmps[278]? = some (.int .i64 x16_40) := by rw [ha]; exact (putSel_off rfl).trans rfl
                    replace ha := Aside0.mk ha
                    have HO364 := Aside0.mk Q_HO364
                    have HO_28 := Aside0.mk Q_HO_28
                    have HO_7 := Aside0.mk Q_HO_7
                    have HO_8 := Aside0.mk (Q_HO_8 (hoff 24 (by kernel_rfl)))
                    have BK310 := Aside0.mk Q_BK310
                    have HB := Aside0.mk Q_HB
                    refine step_look (by rfl) rfl (.tmp 277) (.tmp 278) rfl (by first | (simp only [Act.eval, Array.getD_eq_getD_getElem?, Option.getD_some, e277]; done) | (simp only [Act.eval, Array.getD_eq_getD_getElem?, Option.getD_some, e277]; rfl)) HO_8.out (by first | (simp only [Act.eval, Array.getD_eq_getD_getElem?, Option.getD_some, e278]; done) | (simp only [Act.eval, Array.getD_eq_getD_getElem?, Option.getD_some, e278]; rfl)) A131.out ?_
                    intro w141 hb
                    have n0_ := Aside0.mk (Kd.R_below (by (with_reducible repeat (first | apply Kd.R_alloc | apply Kd.R_drewN | apply Kd.R_drew)); exact HO_7.out) hb)
                    have n1_ := Aside0.mk (MR_below (by (with_reducible repeat (first | apply MR_alloc | apply MR_drewN | apply MR_drew)); exact HO_8.out) hb)
                    have n2_ := Aside0.mk (Kd.R_below (by (with_reducible repeat (first | apply Kd.R_alloc | apply Kd.R_drewN | apply Kd.R_drew)); exact HO_28.out) hb)
                    have n3_ := Aside0.mk (Kd.R_below (by (with_reducible repeat (first | apply Kd.R_alloc | apply Kd.R_drewN | apply Kd.R_drew)); exact HO364.out) hb)
                    have n4_ := Aside0.mk (blk_below (g := gb310) (o := .cells #[.int .i64 ((rd_T75 l2 x57_2).f0), .int .i64 ((rd_T75 l2 x57_2).f1), .int .i64 ((rd_T75 l2 x57_2).f2), .int .i64 ((rd_T75 l2 x57_2).f3), .slice A309_4 ((rd_T75 l2 x57_2).f4).length c309_4] 75 (0, 0)) (by (with_reducible repeat (first | refine blk_drewN ?_ _ | refine blk_drew ?_ | refine blk_alloc ?_ _)); exact BK310.out) hb)
                    have n5_ := Aside0.mk (below_step (by repeat (first | (with_reducible first | exact HB.out | apply below_alloc | apply pw_below_drewN | apply below_drew1 | refine below_set ?_ GE310.out) | exact HB.out)) hb)
                    clear HO_7
                    clear HO_8
                    clear HO_28
                    clear HO364
                    clear BK310
                    clear HB
                    have HO_7 := n0_
                    have HO_8 := n1_
                    have HO_28 := n2_
                    have HO364 := n3_
                    have BK310 := n4_
                    have HB := n5_
                    clear n0_ n1_ n2_ n3_ n4_ n5_
                    (try clear hb)
                    (try clear hb2)
                    (try clear hk)
                    (try clear hi)
                    refine hK.out _ _ ⟨v368, (by rw [ha.out]; exact putSel_upk 6 hb_ rfl rfl rfl), (by (with_reducible repeat (first | apply Kd.R_alloc | apply Kd.R_drewN | apply Kd.R_drew)); exact Kd.R_mono HO364.out (fun _ hk => by first | exact hk | exact hk.2 | exact ⟨trivial, hk⟩)), (by (with_reducible repeat (first | apply Kd.R_alloc | apply Kd.R_drewN | apply Kd.R_drew)); exact HO_28.out), (by (with_reducible repeat (first | apply Kd.R_alloc | apply Kd.R_drewN | apply Kd.R_drew)); exact Kd.R_mono HO_7.out (fun _ hk => by first | exact hk | exact hk.2 | exact ⟨trivial, hk⟩)), (fun _ => (by (with_reducible repeat (first | apply MR_alloc | apply MR_drewN | apply MR_drew)); exact HO_8.out)), (by (with_reducible repeat (first | refine blk_drewN ?_ _ | refine blk_drew ?_ | refine blk_alloc ?_ _)); exact BK310.out), (by repeat (first | (with_reducible first | exact HB.out | apply below_alloc | apply pw_below_drewN | apply below_drew1 | refine below_set ?_ GE310.out) | exact HB.out)), fun h0_ => absurd ((hoff 24 (by kernel_rfl)).symm.trans h0_) (by decide)⟩
                   refine steps_cons ?_ ?_
                   ·
                    rintro b a w' ⟨v368, ha, Q_HO364, Q_HO_28, Q_HO_7, Q_HO_8, Q_BK310, Q_HB, Q_HO369⟩ hb_ hon hoff
                    refine ⟨_, rfl, fun K hK => ?_⟩
                    have e279 : a.tmps[279]? = some (.agg #[.string t366]) := by rw [ha]; exact putSel_on (e := (14, 279, .agg #[.string t366])) 6 rfl rfl (hon 14 (by kernel_rfl)) rfl
                    replace ha := Aside0.mk ha
                    have HO364 := Aside0.mk Q_HO364
                    have HO_28 := Aside0.mk Q_HO_28
                    have HO_7 := Aside0.mk Q_HO_7
                    have HO_8 := Aside0.mk (Q_HO_8 (hoff 24 (by kernel_rfl)))
                    have BK310 := Aside0.mk Q_BK310
                    have HB := Aside0.mk Q_HB
                    refine value_ (w1 := w') (v := .string t366) (by rfl) rfl ?_ ?_
                    ·
                     go_simp
                     (try simp only [i64_w])
                     first | rfl | done | (have zc129_ := of_eq_true c129b0; have zc130_ := of_eq_true c130b0; have zc134_ := of_eq_true c134b0; have zc135_ := of_eq_true c135b0; simp only [ByteArray.size_extract, ByteArray.size_append] at zc129_ zc130_ zc134_ zc135_; omega) | skip
                    refine hK.out _ _ ⟨v368, (by rw [ha.out]; exact putSel_upk 7 hb_ rfl rfl rfl), Q_HO364, Q_HO_28, Q_HO_7, Q_HO_8, Q_BK310, Q_HB, fun h0_ => absurd ((hoff 24 (by kernel_rfl)).symm.trans h0_) (by decide)⟩
                   refine steps_cons ?_ ?_
                   ·
                    rintro b a w' ⟨v368, ha, Q_HO364, Q_HO_28, Q_HO_7, Q_HO_8, Q_BK310, Q_HB, Q_HO369⟩ hb_ hon hoff
                    refine ⟨_, rfl, fun K hK => ?_⟩
                    have e282 : a.tmps[282]? = some (.pointer (some ⟨gb310, 4, none⟩)) := by rw [ha]; exact (putSel_off rfl).trans rfl
                    replace ha := Aside0.mk ha
                    have HO364 := Aside0.mk Q_HO364
                    have HO_28 := Aside0.mk Q_HO_28
                    have HO_7 := Aside0.mk Q_HO_7
                    have HO_8 := Aside0.mk (Q_HO_8 (hoff 24 (by kernel_rfl)))
                    have BK310 := Aside0.mk Q_BK310
                    have HB := Aside0.mk Q_HB
                    have hc0_ : w'.cell? ⟨gb310, 0, none⟩ = some (.int .i64 ((rd_T75 l2 x57_2).f0)) := (blk_cell BK310.out 0).trans rfl
                    have hc1_ : w'.cell? ⟨gb310, 1, none⟩ = some (.int .i64 ((rd_T75 l2 x57_2).f1)) := (blk_cell BK310.out 1).trans rfl
                    have hc2_ : w'.cell? ⟨gb310, 2, none⟩ = some (.int .i64 ((rd_T75 l2 x57_2).f2)) := (blk_cell BK310.out 2).trans rfl
                    have hc3_ : w'.cell? ⟨gb310, 3, none⟩ = some (.int .i64 ((rd_T75 l2 x57_2).f3)) := (blk_cell BK310.out 3).trans rfl
                    have hc4_ : w'.cell? ⟨gb310, 4, none⟩ = some (.slice A309_4 ((rd_T75 l2 x57_2).f4).length c309_4) := (blk_cell BK310.out 4).trans rfl
                    refine value_ (w1 := w') (v := .slice A309_4 ((rd_T75 l2 x57_2).f4).length c309_4) (by rfl) rfl ?_ ?_
                    ·
                     go_simp
                     (try simp only [i64_w])
                     first | rfl | done | (have zc129_ := of_eq_true c129b0; have zc130_ := of_eq_true c130b0; have zc134_ := of_eq_true c134b0; have zc135_ := of_eq_true c135b0; simp only [ByteArray.size_extract, ByteArray.size_append] at zc129_ zc130_ zc134_ zc135_; omega) | skip
                    refine hK.out _ _ ⟨v368, (by rw [ha.out]; exact putSel_upk 8 hb_ rfl rfl rfl), Q_HO364, Q_HO_28, Q_HO_7, Q_HO_8, Q_BK310, Q_HB, fun h0_ => absurd ((hoff 24 (by kernel_rfl)).symm.trans h0_) (by decide)⟩
                   refine steps_cons ?_ ?_
                   ·
                    rintro b a w' ⟨v368, ha, Q_HO364, Q_HO_28, Q_HO_7, Q_HO_8, Q_BK310, Q_HB, Q_HO369⟩ hb_ hon hoff
                    refine ⟨_, rfl, fun K hK => ?_⟩
                    have e283 : a.tmps[283]? = some (.slice A309_4 ((rd_T75 l2 x57_2).f4).length c309_4) := by rw [ha]; exact putSel_on (e := (18, 283, .slice A309_4 ((rd_T75 l2 x57_2).f4).length c309_4)) 8 rfl rfl (hon 18 (by kernel_rfl)) rfl
                    replace ha := Aside0.mk ha
                    have HO364 := Aside0.mk Q_HO364
                    have HO_28 := Aside0.mk Q_HO_28
                    have HO_7 := Aside0.mk Q_HO_7
                    have HO_8 := Aside0.mk (Q_HO_8 (hoff 24 (by kernel_rfl)))
                    have BK310 := Aside0.mk Q_BK310
                    have HB := Aside0.mk Q_HB
                    refine value_ (w1 := w') (v := .int .i64 (((rd_T75 l2 x57_2).f4).length : Int)) (by rfl) rfl ?_ ?_
                    ·
                     go_simp
                     (try simp only [i64_w])
                     first | rfl | done | (have zc129_ := of_eq_true c129b0; have zc130_ := of_eq_true c130b0; have zc134_ := of_eq_true c134b0; have zc135_ := of_eq_true c135b0; simp only [ByteArray.size_extract, ByteArray.size_append] at zc129_ zc130_ zc134_ zc135_; omega) | skip
                    refine hK.out _ _ ⟨v368, (by rw [ha.out]; exact putSel_upk 9 hb_ rfl rfl rfl), Q_HO364, Q_HO_28, Q_HO_7, Q_HO_8, Q_BK310, Q_HB, fun h0_ => absurd ((hoff 24 (by kernel_rfl)).symm.trans h0_) (by decide)⟩
                   refine steps_cons ?_ ?_
                   ·
                    rintro b a w' ⟨v368, ha, Q_HO364, Q_HO_28, Q_HO_7, Q_HO_8, Q_BK310, Q_HB, Q_HO369⟩ hb_ hon hoff
                    refine ⟨_, rfl, fun K hK => ?_⟩
                    have e281 : a.tmps[281]? = some (.int .i64 (ji127)) := by rw [ha]; exact (putSel_off rfl).trans rfl
                    have e284 : a.tmps[284]? = some (.int .i64 (((rd_T75 l2 x57_2).f4).length : Int)) := by rw [ha]; exact putSel_on (e := (19, 284, .int .i64 (((rd_T75 l2 x57_2).f4).length : Int))) 9 rfl rfl (hon 19 (by kernel_rfl)) rfl
                    replace ha := Aside0.mk ha
                    have HO364 := Aside0.mk Q_HO364
                    have HO_28 := Aside0.mk Q_HO_28
                    have HO_7 := Aside0.mk Q_HO_7
                    have HO_8 := Aside0.mk (Q_HO_8 (hoff 24 (by kernel_rfl)))
                    have BK310 := Aside0.mk Q_BK310
                    have HB := Aside0.mk Q_HB
                    refine value_ (w1 := w') (v := .int .i64 ji132) (by rfl) rfl ?_ ?_
                    ·
                     go_simp
                     (try simp only [i64_w])
                     first | rfl | done | (have zc129_ := of_eq_true c129b0; have zc130_ := of_eq_true c130b0; have zc134_ := of_eq_true c134b0; have zc135_ := of_eq_true c135b0; simp only [ByteArray.size_extract, ByteArray.size_append] at zc129_ zc130_ zc134_ zc135_; omega) | skip
                    refine hK.out _ _ ⟨v368, (by rw [ha.out]; exact putSel_upk 10 hb_ rfl rfl rfl), Q_HO364, Q_HO_28, Q_HO_7, Q_HO_8, Q_BK310, Q_HB, fun h0_ => absurd ((hoff 24 (by kernel_rfl)).symm.trans h0_) (by decide)⟩
                   refine steps_cons ?_ ?_
                   ·
                    rintro b a w' ⟨v368, ha, Q_HO364, Q_HO_28, Q_HO_7, Q_HO_8, Q_BK310, Q_HB, Q_HO369⟩ hb_ hon hoff
                    refine ⟨_, rfl, fun K hK => ?_⟩
                    have e280 : a.tmps[280]? = some (.string t366) := by rw [ha]; exact putSel_on (e := (15, 280, .string t366)) 7 rfl rfl (hon 15 (by kernel_rfl)) rfl
                    have e285 : a.tmps[285]? = some (.int .i64 ji132) := by rw [ha]; exact putSel_on (e := (20, 285, .int .i64 ji132)) 10 rfl rfl (hon 20 (by kernel_rfl)) rfl
                    replace ha := Aside0.mk ha
                    have HO364 := Aside0.mk Q_HO364
                    have HO_28 := Aside0.mk Q_HO_28
                    have HO_7 := Aside0.mk Q_HO_7
                    have HO_8 := Aside0.mk (Q_HO_8 (hoff 24 (by kernel_rfl)))
                    have BK310 := Aside0.mk Q_BK310
                    have HB := Aside0.mk Q_HB
                    refine value_ (w1 := w') (v := .string (t366.extract ((ji132) : Int).toNat t366.size)) (by rfl) rfl ?_ ?_
                    ·
                     go_simp
                     (try simp only [i64_w])
                     first | rfl | done | (have zc129_ := of_eq_true c129b0; have zc130_ := of_eq_true c130b0; have zc134_ := of_eq_true c134b0; have zc135_ := of_eq_true c135b0; simp only [ByteArray.size_extract, ByteArray.size_append] at zc129_ zc130_ zc134_ zc135_; omega) | skip
                    refine hK.out _ _ ⟨v368, (by rw [ha.out]; exact putSel_upk 11 hb_ rfl rfl rfl), Q_HO364, Q_HO_28, Q_HO_7, Q_HO_8, Q_BK310, Q_HB, fun h0_ => absurd ((hoff 24 (by kernel_rfl)).symm.trans h0_) (by decide)⟩
                   refine steps_cons ?_ ?_
                   ·
                    rintro b a w' ⟨v368, ha, Q_HO364, Q_HO_28, Q_HO_7, Q_HO_8, Q_BK310, Q_HB, Q_HO369⟩ hb_ hon hoff
                    refine ⟨_, rfl, fun K hK => ?_⟩
                    have e276 : a.tmps[276]? = some (.string ((t365.extract 0 ((ji127) : Int).toNat) ++ (strOfNums ((rd_T75 l2 x57_2).f4)))) := by rw [ha]; exact putSel_on (e := (11, 276, .string ((t365.extract 0 ((ji127) : Int).toNat) ++ (strOfNums ((rd_T75 l2 x57_2).f4))))) 5 rfl rfl (hon 11 (by kernel_rfl)) rfl
                    have e286 : a.tmps[286]? = some (.string (t366.extract ((ji132) : Int).toNat t366.size)) := by rw [ha]; exact putSel_on (e := (21, 286, .string (t366.extract ((ji132) : Int).toNat t366.size))) 11 rfl rfl (hon 21 (by kernel_rfl)) rfl
                    replace ha := Aside0.mk ha
                    have HO364 := Aside0.mk Q_HO364
                    have HO_28 := Aside0.mk Q_HO_28
                    have HO_7 := Aside0.mk Q_HO_7
                    have HO_8 := Aside0.mk (Q_HO_8 (hoff 24 (by kernel_rfl)))
                    have BK310 := Aside0.mk Q_BK310
                    have HB := Aside0.mk Q_HB
                    refine value_ (w1 := w') (v := .string (((t365.extract 0 ((ji127) : Int).toNat) ++ (strOfNums ((rd_T75 l2 x57_2).f4))) ++ (t366.extract ((ji132) : Int).toNat t366.size))) (by rfl) rfl ?_ ?_
                    ·
                     go_simp
                     (try simp only [i64_w])
                     first | rfl | done | (have zc129_ := of_eq_true c129b0; have zc130_ := of_eq_true c130b0; have zc134_ := of_eq_true c134b0; have zc135_ := of_eq_true c135b0; simp only [ByteArray.size_extract, ByteArray.size_append] at zc129_ zc130_ zc134_ zc135_; omega) | skip
                    refine hK.out _ _ ⟨v368, (by rw [ha.out]; exact putSel_upk 12 hb_ rfl rfl rfl), Q_HO364, Q_HO_28, Q_HO_7, Q_HO_8, Q_BK310, Q_HB, fun h0_ => absurd ((hoff 24 (by kernel_rfl)).symm.trans h0_) (by decide)⟩
                   refine steps_cons ?_ ?_
                   ·
                    rintro b a w' ⟨v368, ha, Q_HO364, Q_HO_28, Q_HO_7, Q_HO_8, Q_BK310, Q_HB, Q_HO369⟩ hb_ hon hoff
                    refine ⟨_, rfl, fun K hK => ?_⟩
                    have e287 : a.tmps[287]? = some (.string (((t365.extract 0 ((ji127) : Int).toNat) ++ (strOfNums ((rd_T75 l2 x57_2).f4))) ++ (t366.extract ((ji132) : Int).toNat t366.size))) := by rw [ha]; exact putSel_on (e := (22, 287, .string (((t365.extract 0 ((ji127) : Int).toNat) ++ (strOfNums ((rd_T75 l2 x57_2).f4))) ++ (t366.extract ((ji132) : Int).toNat t366.size)))) 12 rfl rfl (hon 22 (by kernel_rfl)) rfl
                    replace ha := Aside0.mk ha
                    have HO364 := Aside0.mk Q_HO364
                    have HO_28 := Aside0.mk Q_HO_28
                    have HO_7 := Aside0.mk Q_HO_7
                    have HO_8 := Aside0.mk (Q_HO_8 (hoff 24 (by kernel_rfl)))
                    have BK310 := Aside0.mk Q_BK310
                    have HB := Aside0.mk Q_HB
                    refine value_ (w1 := w') (v := .agg #[.string (((t365.extract 0 ((ji127) : Int).toNat) ++ (strOfNums ((rd_T75 l2 x57_2).f4))) ++ (t366.extract ((ji132) : Int).toNat t366.size))]) (by rfl) rfl ?_ ?_
                    ·
                     go_simp
                     (try simp only [i64_w])
                     first | rfl | done | (have zc129_ := of_eq_true c129b0; have zc130_ := of_eq_true c130b0; have zc134_ := of_eq_true c134b0; have zc135_ := of_eq_true c135b0; simp only [ByteArray.size_extract, ByteArray.size_append] at zc129_ zc130_ zc134_ zc135_; omega) | skip
                    refine hK.out _ _ ⟨v368, (by rw [ha.out]; exact putSel_upk 13 hb_ rfl rfl rfl), Q_HO364, Q_HO_28, Q_HO_7, Q_HO_8, Q_BK310, Q_HB, fun h0_ => absurd ((hoff 24 (by kernel_rfl)).symm.trans h0_) (by decide)⟩
                   refine steps_cons ?_ ?_
                   ·
                    rintro b a w' ⟨v368, ha, Q_HO364, Q_HO_28, Q_HO_7, Q_HO_8, Q_BK310, Q_HB, Q_HO369⟩ hb_ hon hoff
                    refine ⟨_, rfl, fun K hK => ?_⟩
                    have e265 : a.tmps[265]? = some (.map (some mbH)) := by rw [ha]; exact (putSel_off rfl).trans rfl
                    have e266 : a.tmps[266]? = some (.int .i64 x16_40) := by rw [ha]; exact (putSel_off rfl).trans rfl
                    have e288 : a.tmps[288]? = some (.agg #[.string (((t365.extract 0 ((ji127) : Int).toNat) ++ (strOfNums ((rd_T75 l2 x57_2).f4))) ++ (t366.extract ((ji132) : Int).toNat t366.size))]) := by rw [ha]; exact putSel_on (e := (23, 288, .agg #[.string (((t365.extract 0 ((ji127) : Int).toNat) ++ (strOfNums ((rd_T75 l2 x57_2).f4))) ++ (t366.extract ((ji132) : Int).toNat t366.size))])) 13 rfl rfl (hon 23 (by kernel_rfl)) rfl
                    replace ha := Aside0.mk ha
                    have HO364 := Aside0.mk Q_HO364
                    have HO_28 := Aside0.mk Q_HO_28
                    have HO_7 := Aside0.mk Q_HO_7
                    have HO_8 := Aside0.mk (Q_HO_8 hb_)
                    have BK310 := Aside0.mk Q_BK310
                    have HB := Aside0.mk Q_HB
                    refine step_put (by rfl) rfl (.tmp 265) (.tmp 266) (.tmp 288) rfl (by first | (simp only [Act.eval, Array.getD_eq_getD_getElem?, Option.getD_some, e265]; done) | (simp only [Act.eval, Array.getD_eq_getD_getElem?, Option.getD_some, e265]; rfl)) HO_8.out (by first | (simp only [Act.eval, Array.getD_eq_getD_getElem?, Option.getD_some, e266]; done) | (simp only [Act.eval, Array.getD_eq_getD_getElem?, Option.getD_some, e266]; rfl)) (by first | (simp only [Act.eval, Array.getD_eq_getD_getElem?, Option.getD_some, e288]; done) | (simp only [Act.eval, Array.getD_eq_getD_getElem?, Option.getD_some, e288]; rfl)) A136.out ?_
                    intro w144 hM_ hg_
                    have zHO_7 := Aside0.mk (MR_beside HO_8.out HO_7.out hg_)
                    have zHO_28 := Aside0.mk (MR_beside HO_8.out HO_28.out hg_)
                    have zHO364 := Aside0.mk (MR_beside HO_8.out HO364.out hg_)
                    have zBK310 := Aside0.mk (MR_box HO_8.out BK310.out hg_)
                    have zHB := Aside0.mk (MR_belowB HO_8.out HB.out hg_)
                    refine hK.out _ _ ⟨v368, (by rw [ha.out]; exact putSel_none rfl), zHO364.out, zHO_28.out, zHO_7.out, fun h0_ => absurd h0_ (by simp [up]), zBK310.out, zHB.out, fun _ => hM_⟩
                   exact steps_nil
                  rintro b a w144 hall ⟨v368, ha, Q_HO364, Q_HO_28, Q_HO_7, Q_HO_8, Q_BK310, Q_HB, Q_HO369⟩
                  clear BK310 HB HO364 HO_28 HO_7 HO_8
                  have hb4_ := hall 4 (by kernel_rfl)
                  have hb5_ := hall 5 (by kernel_rfl)
                  have hb7_ := hall 7 (by kernel_rfl)
                  have hb9_ := hall 9 (by kernel_rfl)
                  have hb10_ := hall 10 (by kernel_rfl)
                  have hb11_ := hall 11 (by kernel_rfl)
                  have hb14_ := hall 14 (by kernel_rfl)
                  have hb15_ := hall 15 (by kernel_rfl)
                  have hb18_ := hall 18 (by kernel_rfl)
                  have hb19_ := hall 19 (by kernel_rfl)
                  have hb20_ := hall 20 (by kernel_rfl)
                  have hb21_ := hall 21 (by kernel_rfl)
                  have hb22_ := hall 22 (by kernel_rfl)
                  have hb23_ := hall 23 (by kernel_rfl)
                  have hb24_ := hall 24 (by kernel_rfl)
                  subst ha
                  simp only [putSel, hb4_, hb5_, hb7_, hb9_, hb10_, hb11_, hb14_, hb15_, hb18_, hb19_, hb20_, hb21_, hb22_, hb23_, hb24_, if_true, Act.put, List.setIfInBounds_toArray, List.set_cons_zero, List.set_cons_succ]
                  have HO364 := Aside0.mk Q_HO364
                  clear Q_HO364
                  have HO_28 := Aside0.mk Q_HO_28
                  clear Q_HO_28
                  have HO_7 := Aside0.mk Q_HO_7
                  clear Q_HO_7
                  skip
                  clear Q_HO_8
                  have BK310 := Aside0.mk Q_BK310
                  clear Q_BK310
                  have HB := Aside0.mk Q_HB
                  clear Q_HB
                  have HO369 := Aside0.mk (Q_HO369 hb24_)
                  clear Q_HO369
                  clear hall hb4_ hb5_ hb7_ hb9_ hb10_ hb11_ hb14_ hb15_ hb18_ hb19_ hb20_ hb21_ hb22_ hb23_ hb24_
                  try go_wp2
                  (try simp only [← hji127, ← hji132])
                  go_meet
                  case rel => exact ⟨_, (t362), (t367), (by first | exact H' | ((try rw [hji45]); (try rw [hji76]); (try rw [hji127]); (try rw [hji132]); exact H')), ⟨by have := HJ3.out; have := HK2.out; have := HK3.out; have := HJ40.out; have := HJ104.out; have := HJ113.out; first | omega | exact Nat.le_refl _⟩, ⟨by (with_reducible repeat (first | apply Kd.R_alloc | apply Kd.R_drewN | apply Kd.R_drew)); exact Kd.R_mono HO364.out (fun _ hk => trivial)⟩, ⟨by (with_reducible repeat (first | apply MR_alloc | apply MR_drewN | apply MR_drew)); exact HO369.out⟩, ⟨by (with_reducible repeat (first | refine blk_drewN ?_ _ | refine blk_drew ?_ | refine blk_alloc ?_ _)); exact BK310.out⟩, ⟨by repeat (first | (with_reducible first | exact HB.out | apply below_alloc | apply pw_below_drewN | apply below_drew1 | refine below_set ?_ GE310.out) | exact HB.out)⟩⟩
           as_aux_lemma =>
            clear HC49
            try clear c1
            try clear hcv1
            try clear c2
            try clear p2
            try clear c3
            try clear c4
            try clear p6
            try clear c10
            try clear c12
            try clear c13
            try clear hcv14
            try clear c30
            try clear c34
            try clear p64
            try clear c101
            try clear c101b0
            try clear c101b1
            try clear c108
            try clear c109
            try clear c123
            try clear c124
            try clear c128
            try clear c128b0
            try clear c128b1
            try clear c129
            try clear c129b0
            try clear c129b1
            try clear c130
            try clear c130b0
            try clear c130b1
            try clear c130b2
            try clear c133
            try clear c133b0
            try clear c133b1
            try clear c134
            try clear c134b0
            try clear c134b1
            try clear c135
            try clear c135b0
            try clear c135b1
            try clear c135b2
            try clear hcv140
            obtain ⟨kq, x7_48, x8_48, HA, HJ48, HO_7, HO_8, BK310, HB⟩ := hcut
            cases kq with
            | zero => exact absurd HA.out (by simp [darninglaw19_ImageKeeps.j9])
            | succ kj48 =>
             have H := HA.out
             clear HA
             simp only [darninglaw19_ImageKeeps.j9] at H
             replace H := Option.bind_eq_some_iff.mp H
             obtain ⟨t370, A1450, H⟩ := H
             replace H : (if t370 = true then (darninglaw19_ImageKeeps.l0 kj48 (wrap64 (1 + (wrap64 (Int.tmod (IntKind.u64.wrap (a0)) 64)))) l1 x7_48 x8_48 l2 (l2.length : Int) (wrap64 (x57_2 + 1))) else (some false)) = some true := H
             have A145 := Aside0.mk A1450
             clear A1450
             by_cases c146 : t370 = true
             rotate_left
             ·
              replace c146 := Bool.eq_false_iff.mpr c146
              subst c146
              have H1 : (some false) = some true := by rw [if_neg (show ¬ (false = true) by decide)] at H; exact H
              clear H
              have H := H1
              clear H1
              exact absurd H (by simp)
             subst c146
             have H1 : (darninglaw19_ImageKeeps.l0 kj48 (wrap64 (1 + (wrap64 (Int.tmod (IntKind.u64.wrap (a0)) 64)))) l1 x7_48 x8_48 l2 (l2.length : Int) (wrap64 (x57_2 + 1))) = some true := by rw [if_pos rfl] at H; exact H
             clear H
             have H := H1
             clear H1
             as_aux_lemma =>
              have H' := Aside0.mk H
              clear H
              obtain ⟨Ao147, co147, eo147⟩ := Kd.R_slice HO_7.out
              subst eo147
              have HMAP := HO_8.out
              obtain ⟨mbq, DX, eX, hbX, hokX, hownX, hDX⟩ := HMAP
              cases eX
              have hrX : w.heap.size ≤ wc.heap.size := below_size HB.out
              go_wp2_with (first | (at_range; refine wpList_range_own _ rfl _ 73 rfl 3 77 (Maps.int_keyed und3) und73 RS _ _ _ rfl hownX ?_; intro w150 hrg0 hg0 hs0) | go_in)
              try go_frame
              have hb0 := grown_below hg0
              go_loopg [31] (Maps.size DX) (fun cnt _ wr => ∃ (left : Lit → Bool), Aside0 (wr.ranges Try.prog 3 RS mbH wc.heap.size x8_48.length DX left cnt) ∧ Aside0 (Kd.R (Kd.int .u64) 28 wr w.heap.size (fun _ => True) (.slice Ao147 x7_48.length co147) x7_48) ∧ Aside0 (wr.heap[gb310]? = some (.cells #[.int .i64 ((rd_T75 l2 x57_2).f0), .int .i64 ((rd_T75 l2 x57_2).f1), .int .i64 ((rd_T75 l2 x57_2).f2), .int .i64 ((rd_T75 l2 x57_2).f3), .slice A309_4 ((rd_T75 l2 x57_2).f4).length c309_4] 75 (0, 0))) ∧ Aside0 (Below w.heap.size w wr))
              case atStart => exact ⟨_, ⟨hrg0⟩, ⟨Kd.R_below HO_7.out hb0⟩, ⟨blk_below (g := gb310) (o := .cells #[.int .i64 ((rd_T75 l2 x57_2).f0), .int .i64 ((rd_T75 l2 x57_2).f1), .int .i64 ((rd_T75 l2 x57_2).f2), .int .i64 ((rd_T75 l2 x57_2).f3), .slice A309_4 ((rd_T75 l2 x57_2).f4).length c309_4] 75 (0, 0)) BK310.out hb0⟩, ⟨below_step HB.out hb0⟩⟩
              case round =>
               as_aux_lemma =>
                clear HO_7 HO_8 BK310 HB
                obtain ⟨left, RG, HO_7, BK310, HB⟩ := hrel
                go_wp2_with (first | (at_next; refine wpList_next_ranges _ rfl _ rfl 3 (Maps.int_keyed und3) RS (Value.int .i64) (fun s : ByteArray => .agg #[.string s]) (fun key kl hkey => by obtain ⟨x, rfl, _⟩ := Maps.keyOf_int_inv und3 hkey; exact ⟨x, rfl⟩) (fun v y hv => by obtain ⟨s, rfl, _⟩ := RS_inv hv; exact ⟨s, rfl⟩) mbH wc.heap.size x8_48.length DX left gk rfl RG.out ?_ ?_) | go_in)
                ·
                 intro hc0 hl0
                 have HO_8 : Aside0 (MR _ w.heap.size (fun _ => True) (.map (some mbH)) x8_48) := ⟨⟨mbH, DX, rfl, hbX, trivial, RG.out.owns, hDX⟩⟩
                 go_wp2
                 go_roundg kj48
                 case measure => have := HJ3.out; have := HK2.out; have := HK3.out; have := HJ40.out; have := HJ48.out; omega
                 case rel => exact ⟨(x7_48), (x8_48), (wrap64 (x57_2 + 1)), (by first | rfl | (simp; done) | (simp [*]; done)), (by first | exact H' | ((try rw [hji45]); (try rw [hji76]); (try rw [hji127]); (try rw [hji132]); exact H')), ⟨by have := HJ3.out; have := HK2.out; have := HK3.out; have := HJ40.out; have := HJ48.out; omega⟩, ⟨by (with_reducible repeat (first | apply Kd.R_alloc | apply Kd.R_drewN | apply Kd.R_drew)); exact HO_7.out⟩, ⟨by (with_reducible repeat (first | apply MR_alloc | apply MR_drewN | apply MR_drew)); exact HO_8.out⟩, ⟨by repeat (first | (with_reducible first | exact HB.out | apply below_alloc | apply pw_below_drewN | apply below_drew1 | refine below_set ?_ GE310.out) | exact HB.out)⟩⟩
                ·
                 intro kx sx kl yx pl151 w151 cnt1 hkey hlk hv hat hrg1 hlt hg1 hs1 hen
                 generalize (fun z => left z && !z.sameKey kl) = left1 at hrg1
                 obtain ⟨kq_, ekq, rfl, hwk⟩ := Maps.keyOf_int_inv und3 hkey
                 cases ekq
                 obtain ⟨sq_, esq, ez_, hsz⟩ := RS_inv hv
                 injection ez_ with ez1_ ez2_
                 subst ez1_
                 subst ez2_
                 have esq2 : sx = sq_ := by injection esq with h_; injection h_ with h_; injection h_ with h_ _; injection h_
                 subst esq2
                 have hone := mall_at A145.out (MR_entry hDX hwk hat)
                 have n0_ := Aside0.mk (RG_row RG.out HO_7.out hg1)
                 have n1_ := Aside0.mk (RG_box RG.out BK310.out hg1)
                 have n2_ := Aside0.mk (RG_far hrX HB.out hg1)
                 clear HO_7 BK310 HB RG
                 have HO_7 := n0_
                 have BK310 := n1_
                 have HB := n2_
                 have RG := Aside0.mk hrg1
                 clear n0_ n1_ n2_ hrg1
                 unfold darninglaw19_mone.f at hone
                 obtain ⟨ji4, hji4⟩ : ∃ j_ : Int, (mn (sx.size : Int) 448) = j_ := ⟨_, rfl⟩
                 rw [hji4] at hone
                 have hji4_ : (if 448 < (sx.size : Int) then 448 else (sx.size : Int)) = ji4 := hji4
                 obtain ⟨⟨t306, t307⟩, A50, H2⟩ := Option.bind_eq_some_iff.mp hone
                 have A5 := Aside0.mk A50
                 clear A50 hone
                 dsimp only at H2
                 by_cases c6 : t307 = 0
                 rotate_left
                 ·
                  rw [if_neg c6] at H2; cases H2
                 rw [if_pos c6] at H2
                 have c6b0 : (t307 == 0) = true := beq_iff_eq.mpr c6
                 have c6b1 : (t307 != 0) = false := bne_eq_false_iff_eq.mpr c6
                 by_cases c7 : 0 ≤ (ji4)
                 rotate_left
                 ·
                  rw [if_neg c7] at H2; cases H2
                 rw [if_pos c7] at H2
                 have c7b0 := eq_true c7
                 have c7b1 : decide (0 ≤ (ji4)) = true := decide_eq_true c7
                 by_cases c8 : (ji4) ≤ (sx.size : Int)
                 rotate_left
                 ·
                  rw [if_neg c8] at H2; cases H2
                 rw [if_pos c8] at H2
                 have c8b0 := eq_true c8
                 have c8b1 : decide ((ji4) ≤ (sx.size : Int)) = true := decide_eq_true c8
                 by_cases c9 : (strOfNums t306).toList = (sx.extract 0 ((ji4) : Int).toNat).toList
                 rotate_left
                 ·
                  rw [if_neg c9] at H2; cases H2
                 have c9b0 : ((strOfNums t306).toList == (sx.extract 0 ((ji4) : Int).toNat).toList) = true := beq_iff_eq.mpr c9
                 have c9b1 : ((strOfNums t306).toList != (sx.extract 0 ((ji4) : Int).toNat).toList) = false := bne_eq_false_iff_eq.mpr c9
                 clear c6 c7 c8 c9 H2
                 go_wp2_with (first | ((with_reducible refine gate_dst (N := 32) rfl ?_); refine box_event ?hg (N := 32) ?hd (cs := #[.string (⟨#[]⟩ : ByteArray)]) (t := 77) ?hr ?_; (case hd => rfl); (case hg => rfl); (case hr => first | (go_simp; done) | (go_simp; rfl)); intro gbx hg w160 hbox hb; have n0_ := Aside0.mk (below_step HB.out hb); have n1_ := Aside0.mk hbox; have n2_ := Aside0.mk ((by rw [hg]; exact (below_size HB.out) : w.heap.size ≤ gbx)); have n3_ := Aside0.mk (Kd.R_below HO_7.out hb); have n4_ := Aside0.mk (blk_below (g := gb310) (o := .cells #[.int .i64 ((rd_T75 l2 x57_2).f0), .int .i64 ((rd_T75 l2 x57_2).f1), .int .i64 ((rd_T75 l2 x57_2).f2), .int .i64 ((rd_T75 l2 x57_2).f3), .slice A309_4 ((rd_T75 l2 x57_2).f4).length c309_4] 75 (0, 0)) BK310.out hb); have n5_ := Aside0.mk (RG_below RG.out hb); have n6_ := Aside0.mk ((by rw [hg]; exact Nat.ne_of_lt (blk_lt (g := gb310) (o := .cells #[.int .i64 ((rd_T75 l2 x57_2).f0), .int .i64 ((rd_T75 l2 x57_2).f1), .int .i64 ((rd_T75 l2 x57_2).f2), .int .i64 ((rd_T75 l2 x57_2).f3), .slice A309_4 ((rd_T75 l2 x57_2).f4).length c309_4] 75 (0, 0)) BK310.out)) : gb310 ≠ gbx); clear HB HO_7 BK310 RG; have HB := n0_; have BKX := n1_; have GEX := n2_; have HO_7 := n3_; have BK310 := n4_; have RG := n5_; have NBX := n6_; clear n0_ n1_ n2_ n3_ n4_ n5_ n6_; clear hb hbox hg; have hczX : w160.cell? ⟨gbx, 0, none⟩ = some (.string (⟨#[]⟩ : ByteArray)) := (blk_cell BKX.out 0).trans rfl; have hfzX := blk_frozen BKX.out 0) | (go_at_call 48; (with_reducible refine (image_Read.calls kj48 _ _ x7_48 kx ji4 t306 t307 _ ?side1 ?side2 A5.out).mono ?_); (case side1 => exact (Kd.R_reads' (Kd.R_far (p := ⟨gbx, 0, none⟩) (Kd.R_types HO_7.out BKX.out (by decide)) (fun _ hk => hk.2) _)).2.2); (case side2 => exact (Kd.R_reads' HO_7.out).2.1); rintro e w161 ⟨v308, rfl, ho0, hb⟩; have n0_ := Aside0.mk (Kd.R_lower ho0 (below_size (below_set HB.out GEX.out))); have n1_ := Aside0.mk (below_step (below_set HB.out GEX.out) hb); have n2_ := Aside0.mk (Kd.R_mono (Kd.R_below (Kd.R_far (p := ⟨gbx, 0, none⟩) (Kd.R_types HO_7.out BKX.out (by decide)) (fun _ hk => hk.2) _) hb) (fun _ _ => trivial)); have n3_ := Aside0.mk (blk_below (g := gb310) (o := .cells #[.int .i64 ((rd_T75 l2 x57_2).f0), .int .i64 ((rd_T75 l2 x57_2).f1), .int .i64 ((rd_T75 l2 x57_2).f2), .int .i64 ((rd_T75 l2 x57_2).f3), .slice A309_4 ((rd_T75 l2 x57_2).f4).length c309_4] 75 (0, 0)) (blk_far BK310.out NBX.out _) hb); have n4_ := Aside0.mk (RG_below (RG_set RG.out BKX.out 0 _) hb); clear HB HO_7 BK310 RG; have HO309 := n0_; have HB := n1_; have HO_7 := n2_; have BK310 := n3_; have RG := n4_; clear n0_ n1_ n2_ n3_ n4_; (try clear hb); (try clear ho0); have hcvX := fun nd_ : Nat => own_string (P := Try.prog) (w := w161.drewN nd_) Try.underlying63 Try.underlying5 Try.underlying9 (Kd.own_of_R (Kd.R_drewN HO309.out nd_)); have hcvY := own_string (P := Try.prog) Try.underlying63 Try.underlying5 Try.underlying9 (Kd.own_of_R (Kd.R_drew HO309.out)); have hcvZ := own_string (P := Try.prog) Try.underlying63 Try.underlying5 Try.underlying9 (Kd.own_of_R HO309.out)))
                 go_quiet (fail)
                 go_wp2
                 go_roundg cnt1
                 case measure => exact hlt
                 case rel => exact ⟨left1, ⟨by (with_reducible repeat (first | refine RG_drewN ?_ _ | refine RG_drew ?_)); exact RG.out⟩, ⟨by (with_reducible repeat (first | apply Kd.R_alloc | apply Kd.R_drewN | apply Kd.R_drew)); exact HO_7.out⟩, ⟨by (with_reducible repeat (first | refine blk_drewN ?_ _ | refine blk_drew ?_ | refine blk_alloc ?_ _)); exact BK310.out⟩, ⟨by repeat (first | (with_reducible first | exact HB.out | apply below_alloc | apply pw_below_drewN | apply below_drew1) | exact HB.out)⟩⟩
/-- What a value of type 75 that is read fits. -/
def wfT75 (x : S75) : Prop := (Lit.int .i64 x.f0).wf = true ∧ (Lit.int .i64 x.f1).wf = true ∧ (Lit.int .i64 x.f2).wf = true ∧ (Lit.int .i64 x.f3).wf = true ∧ (x.f4.length ≤ maxLen ∧ ∀ x0_ ∈ x.f4, (Lit.int .u8 x0_).wf = true)

/-- THE ONE PURE STATEMENT of darninglaw19_ImageKeeps. -/
def darninglaw19_ImageKeeps.Pure : Prop := ∀ (a0 : Int) (l1 : List Int) (l2 : List (S75)), (Lit.int .i64 a0).wf = true → l1.length ≤ maxLen → l1.length * 8 ≤ 140737488351232 → (∀ x ∈ l1, (Lit.int .i64 x).wf = true) → l2.length ≤ maxLen → l2.length * 56 ≤ 140737488351232 → (∀ x ∈ l2, wfT75 x) → ∃ k, darninglaw19_ImageKeeps.f k a0 l1 l2 = some true
theorem darninglaw19_ImageKeeps.walk (P : darninglaw19_ImageKeeps.Pure) (a0 : Int) (A1 : Option Addr) (c1 : Nat) (l1 : List Int) (A2 : Option Addr) (c2 : Nat) (l2 : List (S75)) (w : World) (hr1 : Kd.C (Kd.int .i64) w A1 l1.length l1) (hc1 : l1.length ≤ c1) (hr2 : Kd.C k75 w A2 l2.length l2) (hc2 : l2.length ≤ c2) (w0 : (Lit.int .i64 a0).wf = true) (hm1 : l1.length ≤ maxLen) (y1 : l1.length * 8 ≤ 140737488351232) (hw1 : (∀ x ∈ l1, (Lit.int .i64 x).wf = true)) (hm2 : l2.length ≤ maxLen) (y2 : l2.length * 56 ≤ 140737488351232) (hw2 : (∀ x ∈ l2, wfT75 x)) :
  Calls Try.prog 14 #[.int .i64 a0, .slice A1 l1.length c1, .slice A2 l2.length c2] w fun e w' => e = .returned (.bool true) ∧ Below w.heap.size w w' := by
 obtain ⟨k, h⟩ := P a0 l1 l2 w0 hm1 y1 hw1 hm2 y2 hw2
 refine (darninglaw19_ImageKeeps.calls k a0 A1 c1 l1 A2 c2 l2 w hr1 hc1 hr2 hc2 h).mono ?_
 rintro e w' ⟨rfl, hd⟩
 exact ⟨rfl, hd⟩

end Go.Proofs.Ytglekonhdjploaa.XImageKeeps
