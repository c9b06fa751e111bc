-- Laid by this session's own printer (wip/xprint.py): each Go function that the law reaches as a plain Lean function, and that the call comes to it.
import Derived.Test.YtglekonhdjploabXImageFillsx0
namespace Go.Proofs.Ytglekonhdjploab.XImageFills
open Go.RowKit Go.Proofs.YtglekonhdjploabW.PrintWords Go.Proofs.YtglekonhdjploabW.PrintLast Go.Proofs.YtglekonhdjploabW.PrintMore
attribute [local go_sem] max2_int min2_int max_two min_two max_three min_three max_four min_four   -- for this text's walks alone
set_option linter.unusedVariables false
set_option linter.unusedSimpArgs false

/-! ### block_May: function 44 -/
def block_May.f (a0 : Int) : Option (Bool) := if a0 ≥ 2 then (some (decide (a0 ≤ 512))) else (some false)
set_option maxHeartbeats 8000000 in
set_option maxRecDepth 100000 in
theorem block_May.calls (a0 : Int) (r : Bool) (w : World) (h : block_May.f a0 = some r) :
  Calls Try.prog 44 #[.int .i64 a0] w fun e w' => e = .returned (.bool r) ∧ Drawn0 w w' := by
 have H : (if a0 ≥ 2 then (some (decide (a0 ≤ 512))) else (some false)) = some r := h
 clear h
 by_cases c2 : a0 ≥ 2
 ·
  rw [if_pos c2] at H
  have c2b0 : decide (2 ≤ a0) = true := decide_eq_true c2
  clear c2
  obtain rfl := Option.some.inj H
  go_enter Try.func44, Try.ntmps44
  go_wp2
  go_ret
  exact ⟨by first | rfl | (simp; done) | (simp [*]; done), by repeat (first | exact Drawn0.refl _ | apply Drawn0.step)⟩
 ·
  rw [if_neg c2] at H
  have c2b0 : decide (2 ≤ a0) = false := decide_eq_false c2
  clear c2
  obtain rfl := Option.some.inj H
  go_enter Try.func44, Try.ntmps44
  go_wp2
  go_ret
  exact ⟨by first | rfl | (simp; done) | (simp [*]; done), by repeat (first | exact Drawn0.refl _ | apply Drawn0.step)⟩

/-! ### block_Parse: function 28 -/
def block_Parse.f (a0 : Int) : Option (Int × Bool × Bool) := if (a0 / 2) > 512 then (some (0, false, false)) else ((block_May.f (wrap64 (a0 / 2))).bind fun t101 => (if t101 = true then (some (wrap64 (a0 / 2), ((Go.bits .and .u64 a0 1) == 1), true)) else (some (0, false, false))))
set_option maxHeartbeats 8000000 in
set_option maxRecDepth 100000 in
theorem block_Parse.calls (a0 : Int) (r1 : Int) (r2 : Bool) (r3 : Bool) (w : World) (h : block_Parse.f a0 = some (r1, r2, r3)) :
  Calls Try.prog 28 #[.int .u64 a0] w fun e w' => e = .returned (.tuple #[.int .i64 r1, .bool r2, .bool r3]) ∧ Drawn0 w w' := by
 have H : (if (a0 / 2) > 512 then (some (0, false, false)) else ((block_May.f (wrap64 (a0 / 2))).bind fun t101 => (if t101 = true then (some (wrap64 (a0 / 2), ((Go.bits .and .u64 a0 1) == 1), true)) else (some (0, false, false))))) = some (r1, r2, r3) := h
 clear h
 by_cases c2 : (a0 / 2) > 512
 ·
  rw [if_pos c2] at H
  have c2b0 : decide (512 < (a0 / 2)) = true := decide_eq_true c2
  clear c2
  simp only [Option.some.injEq, Prod.mk.injEq] at H
  obtain ⟨rfl, rfl, rfl⟩ := H
  go_enter Try.func28, Try.ntmps28
  go_wp2
  go_ret3
  exact ⟨by first | rfl | (simp; done) | (simp [*]; done), by repeat (first | exact Drawn0.refl _ | apply Drawn0.step)⟩
 ·
  rw [if_neg c2] at H
  have c2b0 : decide (512 < (a0 / 2)) = false := decide_eq_false c2
  clear c2
  replace H := Option.bind_eq_some_iff.mp H
  obtain ⟨t101, A30, H⟩ := H
  replace H : (if t101 = true then (some (wrap64 (a0 / 2), ((Go.bits .and .u64 a0 1) == 1), true)) else (some (0, false, false))) = some (r1, r2, r3) := H
  have A3 := Aside0.mk A30
  clear A30
  by_cases c4 : t101 = true
  ·
   subst c4
   have H1 : (some (wrap64 (a0 / 2), ((Go.bits .and .u64 a0 1) == 1), true)) = some (r1, r2, r3) := by rw [if_pos rfl] at H; exact H
   clear H
   have H := H1
   clear H1
   simp only [Option.some.injEq, Prod.mk.injEq] at H
   obtain ⟨rfl, rfl, rfl⟩ := H
   go_enter Try.func28, Try.ntmps28
   go_wp2_with (first | (go_at_call 44; (with_reducible refine (block_May.calls (wrap64 (a0 / 2)) true _ A3.out).mono ?_); rintro e w' ⟨rfl, ⟨nd, rfl⟩⟩))
   go_ret3
   exact ⟨by first | rfl | (simp; done) | (simp [*]; done), by repeat (first | exact Drawn0.refl _ | apply Drawn0.step)⟩
  ·
   replace c4 := Bool.eq_false_iff.mpr c4
   subst c4
   have H1 : (some (0, false, false)) = some (r1, r2, r3) := by rw [if_neg (show ¬ (false = true) by decide)] at H; exact H
   clear H
   have H := H1
   clear H1
   simp only [Option.some.injEq, Prod.mk.injEq] at H
   obtain ⟨rfl, rfl, rfl⟩ := H
   go_enter Try.func28, Try.ntmps28
   go_wp2_with (first | (go_at_call 44; (with_reducible refine (block_May.calls (wrap64 (a0 / 2)) false _ A3.out).mono ?_); rintro e w' ⟨rfl, ⟨nd, rfl⟩⟩))
   go_ret3
   exact ⟨by first | rfl | (simp; done) | (simp [*]; done), by repeat (first | exact Drawn0.refl _ | apply Drawn0.step)⟩

/-! ### chain_mayWords: function 30 -/
def chain_mayWords.f (a0 : Int) : Option (Bool) := if a0 ≥ 8 then (if a0 ≤ 512 then (some ((Int.tmod a0 8) == 0)) else (some false)) else (some false)
set_option maxHeartbeats 8000000 in
set_option maxRecDepth 100000 in
theorem chain_mayWords.calls (a0 : Int) (r : Bool) (w : World) (h : chain_mayWords.f a0 = some r) :
  Calls Try.prog 30 #[.int .i64 a0] w fun e w' => e = .returned (.bool r) ∧ Drawn0 w w' := by
 have H : (if a0 ≥ 8 then (if a0 ≤ 512 then (some ((Int.tmod a0 8) == 0)) else (some false)) else (some false)) = some r := h
 clear h
 by_cases c2 : a0 ≥ 8
 ·
  rw [if_pos c2] at H
  have c2b0 : decide (8 ≤ a0) = true := decide_eq_true c2
  clear c2
  by_cases c3 : a0 ≤ 512
  ·
   rw [if_pos c3] at H
   have c3b0 : decide (a0 ≤ 512) = true := decide_eq_true c3
   clear c3
   obtain rfl := Option.some.inj H
   go_enter Try.func30, Try.ntmps30
   go_wp2
   go_ret
   exact ⟨by first | rfl | (simp; done) | (simp [*]; done), by repeat (first | exact Drawn0.refl _ | apply Drawn0.step)⟩
  ·
   rw [if_neg c3] at H
   have c3b0 : decide (a0 ≤ 512) = false := decide_eq_false c3
   clear c3
   obtain rfl := Option.some.inj H
   go_enter Try.func30, Try.ntmps30
   go_wp2
   go_ret
   exact ⟨by first | rfl | (simp; done) | (simp [*]; done), by repeat (first | exact Drawn0.refl _ | apply Drawn0.step)⟩
 ·
  rw [if_neg c2] at H
  have c2b0 : decide (8 ≤ a0) = false := decide_eq_false c2
  clear c2
  obtain rfl := Option.some.inj H
  go_enter Try.func30, Try.ntmps30
  go_wp2
  go_ret
  exact ⟨by first | rfl | (simp; done) | (simp [*]; done), by repeat (first | exact Drawn0.refl _ | apply Drawn0.step)⟩

/-! ### chain_May: function 29 -/
def chain_May.l0 : Nat → Int → Int → Bool → List (S45) → Int → Int → Option (Bool)
 | 0, _, _, _, _, _, _ => none
 | k + 1, x1, x5, x6, x12, x13, x14 => if x14 < x13 then (if 0 ≤ x14 then (if x14 < (x12.length : Int) then (if ((rd_T45 x12 x14).f0) = x5 then ((block_May.f ((rd_T45 x12 x14).f1)).bind fun t105 => (if t105 = true then (if x6 = true then (if ((rd_T45 x12 x14).f2 = true) then (if ((rd_T45 x12 x14).f1) > (wrap64 (x1 - x5)) then (some false) else (chain_May.l0 k x1 (wrap64 (x5 + ((rd_T45 x12 x14).f1))) (!((rd_T45 x12 x14).f2)) x12 x13 (wrap64 (x14 + 1)))) else (some false)) else (if ((rd_T45 x12 x14).f1) > (wrap64 (x1 - x5)) then (some false) else (chain_May.l0 k x1 (wrap64 (x5 + ((rd_T45 x12 x14).f1))) (!((rd_T45 x12 x14).f2)) x12 x13 (wrap64 (x14 + 1))))) else (some false))) else (some false)) else (none)) else (none)) else (some (x5 == x1))
def chain_May.f (k : Nat) (l0 : List (S45)) (a1 : Int) : Option (Bool) := (chain_mayWords.f a1).bind fun t102 => (if t102 = true then (chain_May.l0 k a1 0 false l0 (l0.length : Int) 0) else (some false))
theorem chain_May.mono_l : ∀ k, (∀ y0 y1 y2 y3 y4 y5, LeO (chain_May.l0 k y0 y1 y2 y3 y4 y5) (chain_May.l0 (k + 1) y0 y1 y2 y3 y4 y5))
 | 0 => fun _ _ _ _ _ _ r h => by simp [chain_May.l0] at h
 | k + 1 => by
  have ih0 := chain_May.mono_l k
  ·
   intro y0 y1 y2 y3 y4 y5
   unfold chain_May.l0
   repeat' first
   | (with_reducible exact ih0 _ _ _ _ _ _)
   | (with_reducible exact LeO.refl _)
   | (with_reducible exact LeO.none _)
   | (with_reducible refine LeO.ite ?_ ?_)
   | (with_reducible refine LeO.bind ?_ (fun _ => ?_))
   | exact ih0 _ _ _ _ _ _
   | exact LeO.none _
   | refine LeO.ite ?_ ?_
   | refine LeO.bind ?_ (fun _ => ?_)
theorem chain_May.mono : ∀ a0 a1 k, LeO (chain_May.f k a0 a1) (chain_May.f (k + 1) a0 a1) := by
 intro a0 a1 k
 have ih0 := chain_May.mono_l k
 unfold chain_May.f
 repeat' first
   | (with_reducible exact ih0 _ _ _ _ _ _)
   | (with_reducible exact LeO.refl _)
   | (with_reducible exact LeO.none _)
   | (with_reducible refine LeO.ite ?_ ?_)
   | (with_reducible refine LeO.bind ?_ (fun _ => ?_))
   | exact ih0 _ _ _ _ _ _
   | exact LeO.none _
   | refine LeO.ite ?_ ?_
   | refine LeO.bind ?_ (fun _ => ?_)
set_option maxHeartbeats 8000000 in
set_option maxRecDepth 100000 in
theorem chain_May.calls (k : Nat) (A0 : Option Addr) (c0 : Nat) (l0 : List (S45)) (a1 : Int) (r : Bool) (w : World) (hr0 : Kd.C k45 w A0 l0.length l0) (hc0 : l0.length ≤ c0) (h : chain_May.f k l0 a1 = some r) :
  Calls Try.prog 29 #[.slice A0 l0.length c0, .int .i64 a1] w fun e w' => e = .returned (.bool r) ∧ Below w.heap.size w w' := by
 have hu45 := Try.underlying45
 have HR0 := Aside0.mk hr0
 have HC0 := Aside0.mk hc0
 clear hr0 hc0
 have HB := Aside0.mk (Below.refl w.heap.size w)
 have H : ((chain_mayWords.f a1).bind fun t102 => (if t102 = true then (chain_May.l0 k a1 0 false l0 (l0.length : Int) 0) else (some false))) = some r := h
 clear h
 replace H := Option.bind_eq_some_iff.mp H
 obtain ⟨t102, A30, H⟩ := H
 replace H : (if t102 = true then (chain_May.l0 k a1 0 false l0 (l0.length : Int) 0) else (some false)) = some r := H
 have A3 := Aside0.mk A30
 clear A30
 by_cases c4 : t102 = true
 ·
  subst c4
  have H1 : (chain_May.l0 k a1 0 false l0 (l0.length : Int) 0) = some r := by rw [if_pos rfl] at H; exact H
  clear H
  have H := H1
  clear H1
  have H' := Aside0.mk H
  clear H
  go_enter Try.func29, Try.ntmps29
  go_wp2_with (first | ((with_reducible refine gate_callee (f := 30) rfl ?_); refine goesL_ (some 10) rfl rfl Try.func30 (by kernel_rfl) rfl #[.int .i64 a1] rfl (by (try simp only [List.map_toArray, List.map_cons, List.map_nil]); first | done | rfl | (simp only [List.length_drop, List.length_take]; rfl)) ?_; (with_reducible refine (chain_mayWords.calls a1 true _ A3.out).mono ?_); rintro e w' ⟨rfl, ⟨nd, rfl⟩⟩; refine ⟨_, rfl, ?_⟩))
  go_loopg [5, 6, 14] k (fun kq v5 v6 v14 w' => ∃ (x5_1 : Int) (x6_1 : Bool) (x14_1 : Int), v5 = .int .i64 x5_1 ∧ v6 = .bool x6_1 ∧ v14 = .int .i64 x14_1 ∧ Aside0 (chain_May.l0 kq a1 x5_1 x6_1 l0 (l0.length : Int) x14_1 = some r) ∧ Aside0 (kq ≤ k) ∧ Aside0 (Below w.heap.size w w'))
  case atStart => exact ⟨(0), (false), (0), (by first | rfl | (simp; done) | (simp [*]; done)), (by first | rfl | (simp; done) | (simp [*]; done)), (by first | rfl | (simp; done) | (simp [*]; done)), H', ⟨Nat.le_refl _⟩, ⟨by repeat (first | (with_reducible first | exact HB.out | apply below_alloc | apply pw_below_drewN | apply below_drew1) | exact HB.out)⟩⟩
  case round =>
   clear H'
   try clear c2
   try clear p2
   try clear c3
   try clear c4
   obtain ⟨x5_1, x6_1, x14_1, rfl, rfl, rfl, HA, HK1, HB⟩ := hrel
   cases gk with
   | zero => exact absurd HA.out (by simp [chain_May.l0])
   | succ k1 =>
    have H := HA.out
    clear HA
    simp only [chain_May.l0] at H
    by_cases c5 : x14_1 < (l0.length : Int)
    ·
     rw [if_pos c5] at H
     have c5b0 : decide (x14_1 < (l0.length : Int)) = true := decide_eq_true c5
     clear c5
     by_cases c6 : 0 ≤ x14_1
     ·
      rw [if_pos c6] at H
      have c6b0 : decide (0 ≤ x14_1) = true := decide_eq_true c6
      clear c6
      by_cases c7 : x14_1 < (l0.length : Int)
      ·
       rw [if_pos c7] at H
       have c7b0 : decide (x14_1 < (l0.length : Int)) = true := decide_eq_true c7
       clear c7
       by_cases c8 : ((rd_T45 l0 x14_1).f0) = x5_1
       ·
        rw [if_pos c8] at H
        have c8b0 : (((rd_T45 l0 x14_1).f0) == x5_1) = true := beq_iff_eq.mpr c8
        have c8b1 : (((rd_T45 l0 x14_1).f0) != x5_1) = false := bne_eq_false_iff_eq.mpr c8
        clear c8
        replace H := Option.bind_eq_some_iff.mp H
        obtain ⟨t105, A90, H⟩ := H
        replace H : (if t105 = true then (if x6_1 = true then (if ((rd_T45 l0 x14_1).f2 = true) then (if ((rd_T45 l0 x14_1).f1) > (wrap64 (a1 - x5_1)) then (some false) else (chain_May.l0 k1 a1 (wrap64 (x5_1 + ((rd_T45 l0 x14_1).f1))) (!((rd_T45 l0 x14_1).f2)) l0 (l0.length : Int) (wrap64 (x14_1 + 1)))) else (some false)) else (if ((rd_T45 l0 x14_1).f1) > (wrap64 (a1 - x5_1)) then (some false) else (chain_May.l0 k1 a1 (wrap64 (x5_1 + ((rd_T45 l0 x14_1).f1))) (!((rd_T45 l0 x14_1).f2)) l0 (l0.length : Int) (wrap64 (x14_1 + 1))))) else (some false)) = some r := H
        have A9 := Aside0.mk A90
        clear A90
        by_cases c10 : t105 = true
        ·
         subst c10
         have H1 : (if x6_1 = true then (if ((rd_T45 l0 x14_1).f2 = true) then (if ((rd_T45 l0 x14_1).f1) > (wrap64 (a1 - x5_1)) then (some false) else (chain_May.l0 k1 a1 (wrap64 (x5_1 + ((rd_T45 l0 x14_1).f1))) (!((rd_T45 l0 x14_1).f2)) l0 (l0.length : Int) (wrap64 (x14_1 + 1)))) else (some false)) else (if ((rd_T45 l0 x14_1).f1) > (wrap64 (a1 - x5_1)) then (some false) else (chain_May.l0 k1 a1 (wrap64 (x5_1 + ((rd_T45 l0 x14_1).f1))) (!((rd_T45 l0 x14_1).f2)) l0 (l0.length : Int) (wrap64 (x14_1 + 1))))) = some r := by rw [if_pos rfl] at H; exact H
         clear H
         have H := H1
         clear H1
         by_cases c11 : x6_1 = true
         ·
          subst c11
          have H1 : (if ((rd_T45 l0 x14_1).f2 = true) then (if ((rd_T45 l0 x14_1).f1) > (wrap64 (a1 - x5_1)) then (some false) else (chain_May.l0 k1 a1 (wrap64 (x5_1 + ((rd_T45 l0 x14_1).f1))) (!((rd_T45 l0 x14_1).f2)) l0 (l0.length : Int) (wrap64 (x14_1 + 1)))) else (some false)) = some r := by rw [if_pos rfl] at H; exact H
          clear H
          have H := H1
          clear H1
          first | (generalize hbq12 : (rd_T45 l0 x14_1).f2 = bq12 at *; replace hbq12 := hbq12.symm) | (obtain ⟨bq12, hbq12⟩ : ∃ b_ : Bool, b_ = ((rd_T45 l0 x14_1).f2) := ⟨_, rfl⟩)
          replace H : (if (bq12 = true) then (if ((rd_T45 l0 x14_1).f1) > (wrap64 (a1 - x5_1)) then (some false) else (chain_May.l0 k1 a1 (wrap64 (x5_1 + ((rd_T45 l0 x14_1).f1))) (!bq12) l0 (l0.length : Int) (wrap64 (x14_1 + 1)))) else (some false)) = some r := by first | exact H | (rw [← hbq12] at H; exact H)
          have Nbq12 := Aside0.mk hbq12
          clear hbq12
          (try rw [← Nbq12.out])
          by_cases c13 : (bq12 = true)
          ·
           subst c13
           have H1 : (if ((rd_T45 l0 x14_1).f1) > (wrap64 (a1 - x5_1)) then (some false) else (chain_May.l0 k1 a1 (wrap64 (x5_1 + ((rd_T45 l0 x14_1).f1))) (!true) l0 (l0.length : Int) (wrap64 (x14_1 + 1)))) = some r := by rw [if_pos rfl] at H; exact H
           clear H
           have H := H1
           clear H1
           by_cases c14 : ((rd_T45 l0 x14_1).f1) > (wrap64 (a1 - x5_1))
           ·
            rw [if_pos c14] at H
            have c14b0 : decide ((wrap64 (a1 - x5_1)) < ((rd_T45 l0 x14_1).f1)) = true := decide_eq_true c14
            clear c14
            obtain rfl := Option.some.inj H
            have p103 : 0 ≤ (x14_1 : Int) := of_decide_eq_true (by first | (with_reducible assumption) | assumption)
            have q103 : x14_1 < (l0.length : Int) := of_decide_eq_true (by first | (with_reducible assumption) | assumption)
            obtain ⟨ad103, e103, hx103_0, hx103_1, hx103_2⟩ := at_T45 HR0.out x14_1 p103 q103
            (try rw [← Nbq12.out] at hx103_2)
            cases e103
            replace hx103_0 := (HB.out.cell (World.block_lt_of_cell? w _ hx103_0)).trans hx103_0
            replace hx103_1 := (HB.out.cell (World.block_lt_of_cell? w _ hx103_1)).trans hx103_1
            replace hx103_2 := (HB.out.cell (World.block_lt_of_cell? w _ hx103_2)).trans hx103_2
            replace p103 := eq_true p103
            replace q103 := eq_true q103
            go_wp2_with (first | ((with_reducible refine gate_dst (N := 8) rfl ?_); refine box_event ?hg (N := 8) ?hd (cs := #[.int .i64 0, .int .i64 0, .bool false]) (t := 45) ?hr ?_; (case hd => rfl); (case hg => rfl); (case hr => first | (go_simp; done) | (go_simp; rfl)); intro gb104 hg w15 hbox hb; have n0_ := Aside0.mk (below_step (by repeat (first | (with_reducible first | exact HB.out | apply below_alloc | apply pw_below_drewN | apply below_drew1) | exact HB.out)) hb); have n1_ := Aside0.mk (hbox); have n2_ := Aside0.mk ((by rw [hg]; exact (below_size (by repeat (first | (with_reducible first | exact HB.out | apply below_alloc | apply pw_below_drewN | apply below_drew1) | exact HB.out))) : w.heap.size ≤ gb104)); have n3_ := Aside0.mk ((by rw [hg]; exact (below_size (by repeat (first | (with_reducible first | exact HB.out | apply below_alloc | apply pw_below_drewN | apply below_drew1) | exact HB.out))) : w.heap.size ≤ gb104)); clear HB; have HB := n0_; have BK104 := n1_; have GW104 := n2_; have GE104 := n3_; clear n0_ n1_ n2_ n3_; clear hb hbox hg; have hcz16_0 : w15.cell? ⟨gb104, 0, none⟩ = some (.int .i64 0) := (blk_cell BK104.out 0).trans rfl; have hcz16_1 : w15.cell? ⟨gb104, 1, none⟩ = some (.int .i64 0) := (blk_cell BK104.out 1).trans rfl; have hcz16_2 : w15.cell? ⟨gb104, 2, none⟩ = some (.bool false) := (blk_cell BK104.out 2).trans rfl; have hfz16_0 := blk_frozen BK104.out 0; have hfz16_1 := blk_frozen BK104.out 1; have hfz16_2 := blk_frozen BK104.out 2) | (go_at_call 44; (with_reducible refine (block_May.calls ((rd_T45 l0 x14_1).f1) true _ A9.out).mono ?_); rintro e w' ⟨rfl, ⟨nd, rfl⟩⟩))
            go_ret
            exact ⟨by first | rfl | (simp [errW_none, errW_some] <;> rfl) | (simp [*, errW_none, errW_some] <;> rfl), by repeat (first | (with_reducible first | exact HB.out | apply below_alloc | apply pw_below_drewN | apply below_drew1 | refine below_set ?_ GE104.out) | exact HB.out)⟩
           ·
            rw [if_neg c14] at H
            have c14b0 : decide ((wrap64 (a1 - x5_1)) < ((rd_T45 l0 x14_1).f1)) = false := decide_eq_false c14
            clear c14
            have H' := Aside0.mk H
            clear H
            have p103 : 0 ≤ (x14_1 : Int) := of_decide_eq_true (by first | (with_reducible assumption) | assumption)
            have q103 : x14_1 < (l0.length : Int) := of_decide_eq_true (by first | (with_reducible assumption) | assumption)
            obtain ⟨ad103, e103, hx103_0, hx103_1, hx103_2⟩ := at_T45 HR0.out x14_1 p103 q103
            (try rw [← Nbq12.out] at hx103_2)
            cases e103
            replace hx103_0 := (HB.out.cell (World.block_lt_of_cell? w _ hx103_0)).trans hx103_0
            replace hx103_1 := (HB.out.cell (World.block_lt_of_cell? w _ hx103_1)).trans hx103_1
            replace hx103_2 := (HB.out.cell (World.block_lt_of_cell? w _ hx103_2)).trans hx103_2
            replace p103 := eq_true p103
            replace q103 := eq_true q103
            go_wp2_with (first | ((with_reducible refine gate_dst (N := 8) rfl ?_); refine box_event ?hg (N := 8) ?hd (cs := #[.int .i64 0, .int .i64 0, .bool false]) (t := 45) ?hr ?_; (case hd => rfl); (case hg => rfl); (case hr => first | (go_simp; done) | (go_simp; rfl)); intro gb104 hg w17 hbox hb; have n0_ := Aside0.mk (below_step (by repeat (first | (with_reducible first | exact HB.out | apply below_alloc | apply pw_below_drewN | apply below_drew1) | exact HB.out)) hb); have n1_ := Aside0.mk (hbox); have n2_ := Aside0.mk ((by rw [hg]; exact (below_size (by repeat (first | (with_reducible first | exact HB.out | apply below_alloc | apply pw_below_drewN | apply below_drew1) | exact HB.out))) : w.heap.size ≤ gb104)); have n3_ := Aside0.mk ((by rw [hg]; exact (below_size (by repeat (first | (with_reducible first | exact HB.out | apply below_alloc | apply pw_below_drewN | apply below_drew1) | exact HB.out))) : w.heap.size ≤ gb104)); clear HB; have HB := n0_; have BK104 := n1_; have GW104 := n2_; have GE104 := n3_; clear n0_ n1_ n2_ n3_; clear hb hbox hg; have hcz18_0 : w17.cell? ⟨gb104, 0, none⟩ = some (.int .i64 0) := (blk_cell BK104.out 0).trans rfl; have hcz18_1 : w17.cell? ⟨gb104, 1, none⟩ = some (.int .i64 0) := (blk_cell BK104.out 1).trans rfl; have hcz18_2 : w17.cell? ⟨gb104, 2, none⟩ = some (.bool false) := (blk_cell BK104.out 2).trans rfl; have hfz18_0 := blk_frozen BK104.out 0; have hfz18_1 := blk_frozen BK104.out 1; have hfz18_2 := blk_frozen BK104.out 2) | (go_at_call 44; (with_reducible refine (block_May.calls ((rd_T45 l0 x14_1).f1) true _ A9.out).mono ?_); rintro e w' ⟨rfl, ⟨nd, rfl⟩⟩))
            go_roundg k1
            case measure => have := HK1.out; omega
            case rel => exact ⟨(wrap64 (x5_1 + ((rd_T45 l0 x14_1).f1))), (!true), (wrap64 (x14_1 + 1)), (by first | rfl | (simp; done) | (simp [*]; done)), (by first | rfl | (simp; done) | (simp [*]; done)), (by first | rfl | (simp; done) | (simp [*]; done)), H', ⟨by have := HK1.out; omega⟩, ⟨by repeat (first | (with_reducible first | exact HB.out | apply below_alloc | apply pw_below_drewN | apply below_drew1 | refine below_set ?_ GE104.out) | exact HB.out)⟩⟩
          ·
           replace c13 := Bool.eq_false_iff.mpr c13
           subst c13
           have H1 : (some false) = some r := by rw [if_neg (show ¬ (false = true) by decide)] at H; exact H
           clear H
           have H := H1
           clear H1
           obtain rfl := Option.some.inj H
           have p103 : 0 ≤ (x14_1 : Int) := of_decide_eq_true (by first | (with_reducible assumption) | assumption)
           have q103 : x14_1 < (l0.length : Int) := of_decide_eq_true (by first | (with_reducible assumption) | assumption)
           obtain ⟨ad103, e103, hx103_0, hx103_1, hx103_2⟩ := at_T45 HR0.out x14_1 p103 q103
           (try rw [← Nbq12.out] at hx103_2)
           cases e103
           replace hx103_0 := (HB.out.cell (World.block_lt_of_cell? w _ hx103_0)).trans hx103_0
           replace hx103_1 := (HB.out.cell (World.block_lt_of_cell? w _ hx103_1)).trans hx103_1
           replace hx103_2 := (HB.out.cell (World.block_lt_of_cell? w _ hx103_2)).trans hx103_2
           replace p103 := eq_true p103
           replace q103 := eq_true q103
           go_wp2_with (first | ((with_reducible refine gate_dst (N := 8) rfl ?_); refine box_event ?hg (N := 8) ?hd (cs := #[.int .i64 0, .int .i64 0, .bool false]) (t := 45) ?hr ?_; (case hd => rfl); (case hg => rfl); (case hr => first | (go_simp; done) | (go_simp; rfl)); intro gb104 hg w19 hbox hb; have n0_ := Aside0.mk (below_step (by repeat (first | (with_reducible first | exact HB.out | apply below_alloc | apply pw_below_drewN | apply below_drew1) | exact HB.out)) hb); have n1_ := Aside0.mk (hbox); have n2_ := Aside0.mk ((by rw [hg]; exact (below_size (by repeat (first | (with_reducible first | exact HB.out | apply below_alloc | apply pw_below_drewN | apply below_drew1) | exact HB.out))) : w.heap.size ≤ gb104)); have n3_ := Aside0.mk ((by rw [hg]; exact (below_size (by repeat (first | (with_reducible first | exact HB.out | apply below_alloc | apply pw_below_drewN | apply below_drew1) | exact HB.out))) : w.heap.size ≤ gb104)); clear HB; have HB := n0_; have BK104 := n1_; have GW104 := n2_; have GE104 := n3_; clear n0_ n1_ n2_ n3_; clear hb hbox hg; have hcz20_0 : w19.cell? ⟨gb104, 0, none⟩ = some (.int .i64 0) := (blk_cell BK104.out 0).trans rfl; have hcz20_1 : w19.cell? ⟨gb104, 1, none⟩ = some (.int .i64 0) := (blk_cell BK104.out 1).trans rfl; have hcz20_2 : w19.cell? ⟨gb104, 2, none⟩ = some (.bool false) := (blk_cell BK104.out 2).trans rfl; have hfz20_0 := blk_frozen BK104.out 0; have hfz20_1 := blk_frozen BK104.out 1; have hfz20_2 := blk_frozen BK104.out 2) | (go_at_call 44; (with_reducible refine (block_May.calls ((rd_T45 l0 x14_1).f1) true _ A9.out).mono ?_); rintro e w' ⟨rfl, ⟨nd, rfl⟩⟩))
           go_ret
           exact ⟨by first | rfl | (simp [errW_none, errW_some] <;> rfl) | (simp [*, errW_none, errW_some] <;> rfl), by repeat (first | (with_reducible first | exact HB.out | apply below_alloc | apply pw_below_drewN | apply below_drew1 | refine below_set ?_ GE104.out) | exact HB.out)⟩
         ·
          replace c11 := Bool.eq_false_iff.mpr c11
          subst c11
          have H1 : (if ((rd_T45 l0 x14_1).f1) > (wrap64 (a1 - x5_1)) then (some false) else (chain_May.l0 k1 a1 (wrap64 (x5_1 + ((rd_T45 l0 x14_1).f1))) (!((rd_T45 l0 x14_1).f2)) l0 (l0.length : Int) (wrap64 (x14_1 + 1)))) = some r := by rw [if_neg (show ¬ (false = true) by decide)] at H; exact H
          clear H
          have H := H1
          clear H1
          by_cases c21 : ((rd_T45 l0 x14_1).f1) > (wrap64 (a1 - x5_1))
          ·
           rw [if_pos c21] at H
           have c21b0 : decide ((wrap64 (a1 - x5_1)) < ((rd_T45 l0 x14_1).f1)) = true := decide_eq_true c21
           clear c21
           obtain rfl := Option.some.inj H
           have p103 : 0 ≤ (x14_1 : Int) := of_decide_eq_true (by first | (with_reducible assumption) | assumption)
           have q103 : x14_1 < (l0.length : Int) := of_decide_eq_true (by first | (with_reducible assumption) | assumption)
           obtain ⟨ad103, e103, hx103_0, hx103_1, hx103_2⟩ := at_T45 HR0.out x14_1 p103 q103
           cases e103
           replace hx103_0 := (HB.out.cell (World.block_lt_of_cell? w _ hx103_0)).trans hx103_0
           replace hx103_1 := (HB.out.cell (World.block_lt_of_cell? w _ hx103_1)).trans hx103_1
           replace hx103_2 := (HB.out.cell (World.block_lt_of_cell? w _ hx103_2)).trans hx103_2
           replace p103 := eq_true p103
           replace q103 := eq_true q103
           go_wp2_with (first | ((with_reducible refine gate_dst (N := 8) rfl ?_); refine box_event ?hg (N := 8) ?hd (cs := #[.int .i64 0, .int .i64 0, .bool false]) (t := 45) ?hr ?_; (case hd => rfl); (case hg => rfl); (case hr => first | (go_simp; done) | (go_simp; rfl)); intro gb104 hg w22 hbox hb; have n0_ := Aside0.mk (below_step (by repeat (first | (with_reducible first | exact HB.out | apply below_alloc | apply pw_below_drewN | apply below_drew1) | exact HB.out)) hb); have n1_ := Aside0.mk (hbox); have n2_ := Aside0.mk ((by rw [hg]; exact (below_size (by repeat (first | (with_reducible first | exact HB.out | apply below_alloc | apply pw_below_drewN | apply below_drew1) | exact HB.out))) : w.heap.size ≤ gb104)); have n3_ := Aside0.mk ((by rw [hg]; exact (below_size (by repeat (first | (with_reducible first | exact HB.out | apply below_alloc | apply pw_below_drewN | apply below_drew1) | exact HB.out))) : w.heap.size ≤ gb104)); clear HB; have HB := n0_; have BK104 := n1_; have GW104 := n2_; have GE104 := n3_; clear n0_ n1_ n2_ n3_; clear hb hbox hg; have hcz23_0 : w22.cell? ⟨gb104, 0, none⟩ = some (.int .i64 0) := (blk_cell BK104.out 0).trans rfl; have hcz23_1 : w22.cell? ⟨gb104, 1, none⟩ = some (.int .i64 0) := (blk_cell BK104.out 1).trans rfl; have hcz23_2 : w22.cell? ⟨gb104, 2, none⟩ = some (.bool false) := (blk_cell BK104.out 2).trans rfl; have hfz23_0 := blk_frozen BK104.out 0; have hfz23_1 := blk_frozen BK104.out 1; have hfz23_2 := blk_frozen BK104.out 2) | (go_at_call 44; (with_reducible refine (block_May.calls ((rd_T45 l0 x14_1).f1) true _ A9.out).mono ?_); rintro e w' ⟨rfl, ⟨nd, rfl⟩⟩))
           go_ret
           exact ⟨by first | rfl | (simp [errW_none, errW_some] <;> rfl) | (simp [*, errW_none, errW_some] <;> rfl), by repeat (first | (with_reducible first | exact HB.out | apply below_alloc | apply pw_below_drewN | apply below_drew1 | refine below_set ?_ GE104.out) | exact HB.out)⟩
          ·
           rw [if_neg c21] at H
           have c21b0 : decide ((wrap64 (a1 - x5_1)) < ((rd_T45 l0 x14_1).f1)) = false := decide_eq_false c21
           clear c21
           have H' := Aside0.mk H
           clear H
           have p103 : 0 ≤ (x14_1 : Int) := of_decide_eq_true (by first | (with_reducible assumption) | assumption)
           have q103 : x14_1 < (l0.length : Int) := of_decide_eq_true (by first | (with_reducible assumption) | assumption)
           obtain ⟨ad103, e103, hx103_0, hx103_1, hx103_2⟩ := at_T45 HR0.out x14_1 p103 q103
           cases e103
           replace hx103_0 := (HB.out.cell (World.block_lt_of_cell? w _ hx103_0)).trans hx103_0
           replace hx103_1 := (HB.out.cell (World.block_lt_of_cell? w _ hx103_1)).trans hx103_1
           replace hx103_2 := (HB.out.cell (World.block_lt_of_cell? w _ hx103_2)).trans hx103_2
           replace p103 := eq_true p103
           replace q103 := eq_true q103
           go_wp2_with (first | ((with_reducible refine gate_dst (N := 8) rfl ?_); refine box_event ?hg (N := 8) ?hd (cs := #[.int .i64 0, .int .i64 0, .bool false]) (t := 45) ?hr ?_; (case hd => rfl); (case hg => rfl); (case hr => first | (go_simp; done) | (go_simp; rfl)); intro gb104 hg w24 hbox hb; have n0_ := Aside0.mk (below_step (by repeat (first | (with_reducible first | exact HB.out | apply below_alloc | apply pw_below_drewN | apply below_drew1) | exact HB.out)) hb); have n1_ := Aside0.mk (hbox); have n2_ := Aside0.mk ((by rw [hg]; exact (below_size (by repeat (first | (with_reducible first | exact HB.out | apply below_alloc | apply pw_below_drewN | apply below_drew1) | exact HB.out))) : w.heap.size ≤ gb104)); have n3_ := Aside0.mk ((by rw [hg]; exact (below_size (by repeat (first | (with_reducible first | exact HB.out | apply below_alloc | apply pw_below_drewN | apply below_drew1) | exact HB.out))) : w.heap.size ≤ gb104)); clear HB; have HB := n0_; have BK104 := n1_; have GW104 := n2_; have GE104 := n3_; clear n0_ n1_ n2_ n3_; clear hb hbox hg; have hcz25_0 : w24.cell? ⟨gb104, 0, none⟩ = some (.int .i64 0) := (blk_cell BK104.out 0).trans rfl; have hcz25_1 : w24.cell? ⟨gb104, 1, none⟩ = some (.int .i64 0) := (blk_cell BK104.out 1).trans rfl; have hcz25_2 : w24.cell? ⟨gb104, 2, none⟩ = some (.bool false) := (blk_cell BK104.out 2).trans rfl; have hfz25_0 := blk_frozen BK104.out 0; have hfz25_1 := blk_frozen BK104.out 1; have hfz25_2 := blk_frozen BK104.out 2) | (go_at_call 44; (with_reducible refine (block_May.calls ((rd_T45 l0 x14_1).f1) true _ A9.out).mono ?_); rintro e w' ⟨rfl, ⟨nd, rfl⟩⟩))
           go_roundg k1
           case measure => have := HK1.out; omega
           case rel => exact ⟨(wrap64 (x5_1 + ((rd_T45 l0 x14_1).f1))), (!((rd_T45 l0 x14_1).f2)), (wrap64 (x14_1 + 1)), (by first | rfl | (simp; done) | (simp [*]; done)), (by first | rfl | (simp; done) | (simp [*]; done)), (by first | rfl | (simp; done) | (simp [*]; done)), H', ⟨by have := HK1.out; omega⟩, ⟨by repeat (first | (with_reducible first | exact HB.out | apply below_alloc | apply pw_below_drewN | apply below_drew1 | refine below_set ?_ GE104.out) | exact HB.out)⟩⟩
        ·
         replace c10 := Bool.eq_false_iff.mpr c10
         subst c10
         have H1 : (some false) = some r := by rw [if_neg (show ¬ (false = true) by decide)] at H; exact H
         clear H
         have H := H1
         clear H1
         obtain rfl := Option.some.inj H
         have p103 : 0 ≤ (x14_1 : Int) := of_decide_eq_true (by first | (with_reducible assumption) | assumption)
         have q103 : x14_1 < (l0.length : Int) := of_decide_eq_true (by first | (with_reducible assumption) | assumption)
         obtain ⟨ad103, e103, hx103_0, hx103_1, hx103_2⟩ := at_T45 HR0.out x14_1 p103 q103
         cases e103
         replace hx103_0 := (HB.out.cell (World.block_lt_of_cell? w _ hx103_0)).trans hx103_0
         replace hx103_1 := (HB.out.cell (World.block_lt_of_cell? w _ hx103_1)).trans hx103_1
         replace hx103_2 := (HB.out.cell (World.block_lt_of_cell? w _ hx103_2)).trans hx103_2
         replace p103 := eq_true p103
         replace q103 := eq_true q103
         go_wp2_with (first | ((with_reducible refine gate_dst (N := 8) rfl ?_); refine box_event ?hg (N := 8) ?hd (cs := #[.int .i64 0, .int .i64 0, .bool false]) (t := 45) ?hr ?_; (case hd => rfl); (case hg => rfl); (case hr => first | (go_simp; done) | (go_simp; rfl)); intro gb104 hg w26 hbox hb; have n0_ := Aside0.mk (below_step (by repeat (first | (with_reducible first | exact HB.out | apply below_alloc | apply pw_below_drewN | apply below_drew1) | exact HB.out)) hb); have n1_ := Aside0.mk (hbox); have n2_ := Aside0.mk ((by rw [hg]; exact (below_size (by repeat (first | (with_reducible first | exact HB.out | apply below_alloc | apply pw_below_drewN | apply below_drew1) | exact HB.out))) : w.heap.size ≤ gb104)); have n3_ := Aside0.mk ((by rw [hg]; exact (below_size (by repeat (first | (with_reducible first | exact HB.out | apply below_alloc | apply pw_below_drewN | apply below_drew1) | exact HB.out))) : w.heap.size ≤ gb104)); clear HB; have HB := n0_; have BK104 := n1_; have GW104 := n2_; have GE104 := n3_; clear n0_ n1_ n2_ n3_; clear hb hbox hg; have hcz27_0 : w26.cell? ⟨gb104, 0, none⟩ = some (.int .i64 0) := (blk_cell BK104.out 0).trans rfl; have hcz27_1 : w26.cell? ⟨gb104, 1, none⟩ = some (.int .i64 0) := (blk_cell BK104.out 1).trans rfl; have hcz27_2 : w26.cell? ⟨gb104, 2, none⟩ = some (.bool false) := (blk_cell BK104.out 2).trans rfl; have hfz27_0 := blk_frozen BK104.out 0; have hfz27_1 := blk_frozen BK104.out 1; have hfz27_2 := blk_frozen BK104.out 2) | (go_at_call 44; (with_reducible refine (block_May.calls ((rd_T45 l0 x14_1).f1) false _ A9.out).mono ?_); rintro e w' ⟨rfl, ⟨nd, rfl⟩⟩))
         go_ret
         exact ⟨by first | rfl | (simp [errW_none, errW_some] <;> rfl) | (simp [*, errW_none, errW_some] <;> rfl), by repeat (first | (with_reducible first | exact HB.out | apply below_alloc | apply pw_below_drewN | apply below_drew1 | refine below_set ?_ GE104.out) | exact HB.out)⟩
       ·
        rw [if_neg c8] at H
        have c8b0 : (((rd_T45 l0 x14_1).f0) == x5_1) = false := beq_eq_false_iff_ne.mpr c8
        have c8b1 : (((rd_T45 l0 x14_1).f0) != x5_1) = true := bne_iff_ne.mpr c8
        obtain rfl := Option.some.inj H
        have p103 : 0 ≤ (x14_1 : Int) := of_decide_eq_true (by first | (with_reducible assumption) | assumption)
        have q103 : x14_1 < (l0.length : Int) := of_decide_eq_true (by first | (with_reducible assumption) | assumption)
        obtain ⟨ad103, e103, hx103_0, hx103_1, hx103_2⟩ := at_T45 HR0.out x14_1 p103 q103
        cases e103
        replace hx103_0 := (HB.out.cell (World.block_lt_of_cell? w _ hx103_0)).trans hx103_0
        replace hx103_1 := (HB.out.cell (World.block_lt_of_cell? w _ hx103_1)).trans hx103_1
        replace hx103_2 := (HB.out.cell (World.block_lt_of_cell? w _ hx103_2)).trans hx103_2
        replace p103 := eq_true p103
        replace q103 := eq_true q103
        go_wp2_with (first | ((with_reducible refine gate_dst (N := 8) rfl ?_); refine box_event ?hg (N := 8) ?hd (cs := #[.int .i64 0, .int .i64 0, .bool false]) (t := 45) ?hr ?_; (case hd => rfl); (case hg => rfl); (case hr => first | (go_simp; done) | (go_simp; rfl)); intro gb104 hg w28 hbox hb; have n0_ := Aside0.mk (below_step (by repeat (first | (with_reducible first | exact HB.out | apply below_alloc | apply pw_below_drewN | apply below_drew1) | exact HB.out)) hb); have n1_ := Aside0.mk (hbox); have n2_ := Aside0.mk ((by rw [hg]; exact (below_size (by repeat (first | (with_reducible first | exact HB.out | apply below_alloc | apply pw_below_drewN | apply below_drew1) | exact HB.out))) : w.heap.size ≤ gb104)); have n3_ := Aside0.mk ((by rw [hg]; exact (below_size (by repeat (first | (with_reducible first | exact HB.out | apply below_alloc | apply pw_below_drewN | apply below_drew1) | exact HB.out))) : w.heap.size ≤ gb104)); clear HB; have HB := n0_; have BK104 := n1_; have GW104 := n2_; have GE104 := n3_; clear n0_ n1_ n2_ n3_; clear hb hbox hg; have hcz29_0 : w28.cell? ⟨gb104, 0, none⟩ = some (.int .i64 0) := (blk_cell BK104.out 0).trans rfl; have hcz29_1 : w28.cell? ⟨gb104, 1, none⟩ = some (.int .i64 0) := (blk_cell BK104.out 1).trans rfl; have hcz29_2 : w28.cell? ⟨gb104, 2, none⟩ = some (.bool false) := (blk_cell BK104.out 2).trans rfl; have hfz29_0 := blk_frozen BK104.out 0; have hfz29_1 := blk_frozen BK104.out 1; have hfz29_2 := blk_frozen BK104.out 2))
        go_ret
        exact ⟨by first | rfl | (simp [errW_none, errW_some] <;> rfl) | (simp [*, errW_none, errW_some] <;> rfl), by repeat (first | (with_reducible first | exact HB.out | apply below_alloc | apply pw_below_drewN | apply below_drew1 | refine below_set ?_ GE104.out) | exact HB.out)⟩
      ·
       rw [if_neg c7] at H
       exact absurd H (by simp)
     ·
      rw [if_neg c6] at H
      exact absurd H (by simp)
    ·
     rw [if_neg c5] at H
     have c5b0 : decide (x14_1 < (l0.length : Int)) = false := decide_eq_false c5
     clear c5
     obtain rfl := Option.some.inj H
     go_wp2
     go_ret
     exact ⟨by first | rfl | (simp [errW_none, errW_some] <;> rfl) | (simp [*, errW_none, errW_some] <;> rfl), by repeat (first | (with_reducible first | exact HB.out | apply below_alloc | apply pw_below_drewN | apply below_drew1) | exact HB.out)⟩
 ·
  replace c4 := Bool.eq_false_iff.mpr c4
  subst c4
  have H1 : (some false) = some r := by rw [if_neg (show ¬ (false = true) by decide)] at H; exact H
  clear H
  have H := H1
  clear H1
  obtain rfl := Option.some.inj H
  go_enter Try.func29, Try.ntmps29
  go_wp2_with (first | ((with_reducible refine gate_callee (f := 30) rfl ?_); refine goesL_ (some 10) rfl rfl Try.func30 (by kernel_rfl) rfl #[.int .i64 a1] rfl (by (try simp only [List.map_toArray, List.map_cons, List.map_nil]); first | done | rfl | (simp only [List.length_drop, List.length_take]; rfl)) ?_; (with_reducible refine (chain_mayWords.calls a1 false _ A3.out).mono ?_); rintro e w' ⟨rfl, ⟨nd, rfl⟩⟩; refine ⟨_, rfl, ?_⟩))
  go_ret
  exact ⟨by first | rfl | (simp [errW_none, errW_some] <;> rfl) | (simp [*, errW_none, errW_some] <;> rfl), by repeat (first | (with_reducible first | exact HB.out | apply below_alloc | apply pw_below_drewN | apply below_drew1) | exact HB.out)⟩

/-! ### chain_Blocks: function 11 -/
def chain_Blocks.l0 : Nat → List Int → List (S45) → Int → Option ((List (S45)) × Bool)
 | 0, _, _, _ => none
 | k + 1, x0, x4, x5 => if x5 < (x0.length : Int) then (if 0 ≤ x5 then ((block_Parse.f (rd x0 x5)).bind fun bt107 => (if bt107.2.2 = true then (if x4.length < 5864062014805 then (chain_Blocks.l0 k x0 (x4 ++ [(⟨x5, bt107.1, bt107.2.1⟩ : S45)]) (wrap64 (x5 + bt107.1))) else (none)) else (some (([] : List (S45)), false)))) else (none)) else ((chain_May.f k x4 (x0.length : Int)).bind fun t113 => (if t113 = true then (some (x4, true)) else (some (([] : List (S45)), false))))
def chain_Blocks.f (k : Nat) (l0 : List Int) : Option ((List (S45)) × Bool) := chain_Blocks.l0 k l0 ([] : List (S45)) 0
theorem chain_Blocks.mono_l : ∀ k, (∀ y0 y1 y2, LeO (chain_Blocks.l0 k y0 y1 y2) (chain_Blocks.l0 (k + 1) y0 y1 y2))
 | 0 => fun _ _ _ r h => by simp [chain_Blocks.l0] at h
 | k + 1 => by
  have ih0 := chain_Blocks.mono_l k
  ·
   intro y0 y1 y2
   unfold chain_Blocks.l0
   repeat' first
   | (with_reducible exact ih0 _ _ _)
   | (with_reducible exact chain_May.mono _ _ _)
   | (with_reducible exact LeO.refl _)
   | (with_reducible exact LeO.none _)
   | (with_reducible refine LeO.ite ?_ ?_)
   | (with_reducible refine LeO.bind ?_ (fun _ => ?_))
   | exact ih0 _ _ _
   | exact chain_May.mono _ _ _
   | exact LeO.none _
   | refine LeO.ite ?_ ?_
   | refine LeO.bind ?_ (fun _ => ?_)
theorem chain_Blocks.mono : ∀ a0 k, LeO (chain_Blocks.f k a0) (chain_Blocks.f (k + 1) a0) := by
 intro a0 k
 have ih0 := chain_Blocks.mono_l k
 unfold chain_Blocks.f
 repeat' first
   | (with_reducible exact ih0 _ _ _)
   | (with_reducible exact chain_May.mono _ _ _)
   | (with_reducible exact LeO.refl _)
   | (with_reducible exact LeO.none _)
   | (with_reducible refine LeO.ite ?_ ?_)
   | (with_reducible refine LeO.bind ?_ (fun _ => ?_))
   | exact ih0 _ _ _
   | exact chain_May.mono _ _ _
   | exact LeO.none _
   | refine LeO.ite ?_ ?_
   | refine LeO.bind ?_ (fun _ => ?_)
set_option maxHeartbeats 8000000 in
set_option maxRecDepth 100000 in
theorem chain_Blocks.calls (k : Nat) (A0 : Option Addr) (c0 : Nat) (l0 : List Int) (r1 : List (S45)) (r2 : Bool) (w : World) (hr0 : Kd.C (Kd.int .u64) w A0 l0.length l0) (hc0 : l0.length ≤ c0) (h : chain_Blocks.f k l0 = some (r1, r2)) :
  Calls Try.prog 11 #[.slice A0 l0.length c0] w fun e w' => ∃ v0_ : Value, e = .returned (.tuple #[v0_, .bool r2]) ∧ Kd.R k45 45 w' w.heap.size (fun _ => True) v0_ r1 ∧ Below w.heap.size w w' := by
 have hu45 := Try.underlying45
 have HR0 := Aside0.mk hr0
 have HC0 := Aside0.mk hc0
 clear hr0 hc0
 have HB := Aside0.mk (Below.refl w.heap.size w)
 have H : (chain_Blocks.l0 k l0 ([] : List (S45)) 0) = some (r1, r2) := h
 clear h
 have H' := Aside0.mk H
 clear H
 go_enter Try.func11, Try.ntmps11
 go_wp2
 go_loopg [4, 5] k (fun kq v4 v5 w' => ∃ (x4_1 : List (S45)) (x5_1 : Int), v5 = .int .i64 x5_1 ∧ Aside0 (chain_Blocks.l0 kq l0 x4_1 x5_1 = some (r1, r2)) ∧ Aside0 (kq ≤ k) ∧ Aside0 (Kd.R k45 45 w' w.heap.size (fun _ => True) v4 x4_1) ∧ Aside0 (Below w.heap.size w w'))
 case atStart => exact ⟨(([] : List (S45))), (0), (by first | rfl | (simp; done) | (simp [*]; done)), H', ⟨Nat.le_refl _⟩, ⟨by first | exact Kd.R_nil _ _ _ _ _ | exact Kd.N_nil _ _ _ _ _ | exact Kd.V_nil _ _ _ _ _ | exact Kd.Q_nil _ _ _ _ _ | exact Kd.S_nil _ _ _ _ _⟩, ⟨by repeat (first | (with_reducible first | exact HB.out | apply below_alloc | apply pw_below_drewN | apply below_drew1) | exact HB.out)⟩⟩
 case round =>
  clear H'
  try clear c1
  obtain ⟨x4_1, x5_1, rfl, HA, HK1, HO_4, HB⟩ := hrel
  cases gk with
  | zero => exact absurd HA.out (by simp [chain_Blocks.l0])
  | succ k1 =>
   have H := HA.out
   clear HA
   simp only [chain_Blocks.l0] at H
   by_cases c2 : x5_1 < (l0.length : Int)
   ·
    rw [if_pos c2] at H
    have c2b0 : decide (x5_1 < (l0.length : Int)) = true := decide_eq_true c2
    clear c2
    by_cases c3 : 0 ≤ x5_1
    ·
     rw [if_pos c3] at H
     have c3b0 : decide (0 ≤ x5_1) = true := decide_eq_true c3
     clear c3
     replace H := Option.bind_eq_some_iff.mp H
     obtain ⟨⟨t107, t108, t109⟩, A40, H⟩ := H
     replace H : (if t109 = true then (if x4_1.length < 5864062014805 then (chain_Blocks.l0 k1 l0 (x4_1 ++ [(⟨x5_1, t107, t108⟩ : S45)]) (wrap64 (x5_1 + t107))) else (none)) else (some (([] : List (S45)), false))) = some (r1, r2) := H
     have A4 := Aside0.mk A40
     clear A40
     by_cases c5 : t109 = true
     ·
      subst c5
      have H1 : (if x4_1.length < 5864062014805 then (chain_Blocks.l0 k1 l0 (x4_1 ++ [(⟨x5_1, t107, t108⟩ : S45)]) (wrap64 (x5_1 + t107))) else (none)) = some (r1, r2) := by rw [if_pos rfl] at H; exact H
      clear H
      have H := H1
      clear H1
      by_cases c6 : x4_1.length < 5864062014805
      ·
       rw [if_pos c6] at H
       have LMc6 := Aside0.mk c6
       clear c6
       obtain ⟨y110, hy110⟩ : ∃ y_ : List (S45), y_ = (x4_1 ++ [(⟨x5_1, t107, t108⟩ : S45)]) := ⟨_, rfl⟩
       replace H : (chain_Blocks.l0 k1 l0 y110 (wrap64 (x5_1 + t107))) = some (r1, r2) := by first | (rw [hy110]; with_reducible exact H) | (have H2_ := (Option.bind_some _ _).symm.trans H; rw [hy110]; with_reducible exact H2_) | (have H2_ := (Option.bind_some _ _).symm.trans H; with_reducible exact H2_) | with_reducible exact H | (rw [hy110]; exact H) | exact H
       have Ny110 := Aside0.mk hy110
       clear hy110
       have H' := Aside0.mk H
       clear H
       have p106 : 0 ≤ (x5_1 : Int) := of_decide_eq_true (by first | (with_reducible assumption) | assumption)
       have q106 : x5_1 < (l0.length : Int) := of_decide_eq_true (by first | (with_reducible assumption) | assumption)
       obtain ⟨ad106, e106, hx106_0⟩ := Kd.at_int HR0.out x5_1 p106 q106
       cases e106
       replace hx106_0 := (HB.out.cell (World.block_lt_of_cell? w _ hx106_0)).trans hx106_0
       replace p106 := eq_true p106
       replace q106 := eq_true q106
       go_wp2_with (first | ((with_reducible refine gate_callee (f := 28) rfl ?_); refine goesL_ (some 18) rfl rfl Try.func28 (by kernel_rfl) rfl #[.int .u64 (rd l0 x5_1)] rfl (by (try simp only [List.map_toArray, List.map_cons, List.map_nil]); first | done | rfl | (simp only [List.length_drop, List.length_take]; rfl)) ?_; (with_reducible refine (block_Parse.calls (rd l0 x5_1) t107 t108 true _ A4.out).mono ?_); rintro e w' ⟨rfl, ⟨nd, rfl⟩⟩; refine ⟨_, rfl, ?_⟩) | ((with_reducible refine gate_builtin (b := .append) (xs := #[.tmp 24, .tmp 29]) rfl ?_); at_builtin; refine Kd.R_append k45 (w0 := w) w.heap.size rfl (.tmp 24) (.tmp 29) 22 45 (.agg #[(.int .i64 0), (.int .i64 0), (.bool false)]) 24 rfl Try.underlying22 info45 rfl (by decide) (by omega) u4 x4_1 (⟨x5_1, t107, t108⟩ : S45) [.int .i64 x5_1, .int .i64 t107, .bool t108] (fun _ => True) (fun _ => False) rfl rfl ?aP (fun _ hk => hk.elim) ?aF ?aO ?aB ?aS ?aL ?_; (case aP => exact k45_mkM _ _ _ (⟨x5_1, t107, t108⟩ : S45)); (case aB => exact (by repeat (first | (with_reducible first | exact HB.out | apply below_alloc | apply pw_below_drewN | apply below_drew1) | exact HB.out))); (case aF => exact (fun _ _ => trivial)); (case aO => exact (by (with_reducible repeat (first | apply Kd.R_alloc | apply Kd.R_drewN | apply Kd.R_drew)); exact HO_4.out)); (case aS => exact (below_size (by repeat (first | (with_reducible first | exact HB.out | apply below_alloc | apply pw_below_drewN | apply below_drew1) | exact HB.out)))); (case aL => have := LMc6.out; omega); intro v111 w7 ho hb hg hat; rw [← Ny110.out] at ho; have n0_ := Aside0.mk (hb); have n1_ := Aside0.mk (ho); clear HB; clear HO_4; have HB := n0_; have HO112 := n1_; clear n0_ n1_; clear ho hb hg hat))
       go_roundg k1
       case measure => have := HK1.out; omega
       case rel => exact ⟨(y110), (wrap64 (x5_1 + t107)), (by first | rfl | (simp; done) | (simp [*]; done)), H', ⟨by have := HK1.out; omega⟩, ⟨by (with_reducible repeat (first | apply Kd.R_alloc | apply Kd.R_drewN | apply Kd.R_drew)); exact HO112.out⟩, ⟨by repeat (first | (with_reducible first | exact HB.out | apply below_alloc | apply pw_below_drewN | apply below_drew1) | exact HB.out)⟩⟩
      ·
       rw [if_neg c6] at H
       exact absurd H (by simp)
     ·
      replace c5 := Bool.eq_false_iff.mpr c5
      subst c5
      have H1 : (some (([] : List (S45)), false)) = some (r1, r2) := by rw [if_neg (show ¬ (false = true) by decide)] at H; exact H
      clear H
      have H := H1
      clear H1
      simp only [Option.some.injEq, Prod.mk.injEq] at H
      obtain ⟨rfl, rfl⟩ := H
      have p106 : 0 ≤ (x5_1 : Int) := of_decide_eq_true (by first | (with_reducible assumption) | assumption)
      have q106 : x5_1 < (l0.length : Int) := of_decide_eq_true (by first | (with_reducible assumption) | assumption)
      obtain ⟨ad106, e106, hx106_0⟩ := Kd.at_int HR0.out x5_1 p106 q106
      cases e106
      replace hx106_0 := (HB.out.cell (World.block_lt_of_cell? w _ hx106_0)).trans hx106_0
      replace p106 := eq_true p106
      replace q106 := eq_true q106
      go_wp2_with (first | ((with_reducible refine gate_callee (f := 28) rfl ?_); refine goesL_ (some 18) rfl rfl Try.func28 (by kernel_rfl) rfl #[.int .u64 (rd l0 x5_1)] rfl (by (try simp only [List.map_toArray, List.map_cons, List.map_nil]); first | done | rfl | (simp only [List.length_drop, List.length_take]; rfl)) ?_; (with_reducible refine (block_Parse.calls (rd l0 x5_1) t107 t108 false _ A4.out).mono ?_); rintro e w' ⟨rfl, ⟨nd, rfl⟩⟩; refine ⟨_, rfl, ?_⟩))
      go_ret2
      exact ⟨_, by first | rfl | (simp [errW_none, errW_some] <;> rfl) | (simp [*, errW_none, errW_some] <;> rfl), by first | exact Kd.R_nil _ _ _ _ _ | exact Kd.N_nil _ _ _ _ _ | exact Kd.V_nil _ _ _ _ _ | exact Kd.Q_nil _ _ _ _ _ | exact Kd.S_nil _ _ _ _ _, by repeat (first | (with_reducible first | exact HB.out | apply below_alloc | apply pw_below_drewN | apply below_drew1) | exact HB.out)⟩
    ·
     rw [if_neg c3] at H
     exact absurd H (by simp)
   ·
    rw [if_neg c2] at H
    have c2b0 : decide (x5_1 < (l0.length : Int)) = false := decide_eq_false c2
    clear c2
    replace H := Option.bind_eq_some_iff.mp H
    obtain ⟨t113, A80, H⟩ := H
    replace H : (if t113 = true then (some (x4_1, true)) else (some (([] : List (S45)), false))) = some (r1, r2) := H
    have A8 := Aside0.mk A80
    clear A80
    by_cases c9 : t113 = true
    ·
     subst c9
     have H1 : (some (x4_1, true)) = some (r1, r2) := by rw [if_pos rfl] at H; exact H
     clear H
     have H := H1
     clear H1
     simp only [Option.some.injEq, Prod.mk.injEq] at H
     obtain ⟨rfl, rfl⟩ := H
     obtain ⟨Ao10, co10, eo10⟩ := Kd.R_slice HO_4.out
     subst eo10
     go_wp2_with (first | ((with_reducible refine gate_callee (f := 29) rfl ?_); refine goesL_ (some 37) rfl rfl Try.func29 (by kernel_rfl) rfl #[.slice Ao10 x4_1.length co10, .int .i64 (l0.length : Int)] rfl (by (try simp only [List.map_toArray, List.map_cons, List.map_nil]); first | done | rfl | (simp only [List.length_drop, List.length_take]; rfl)) ?_; (with_reducible refine (chain_May.calls k1 _ _ x4_1 (l0.length : Int) true _ ?side1 ?side2 A8.out).mono ?_); (case side1 => repeat (first | exact (Kd.R_reads' HO_4.out).2.2 | (with_reducible refine Kd.C_alloc ?_ _) | (with_reducible refine Kd.C_drewN ?_ _) | (with_reducible refine Kd.C_drew ?_))); (case side2 => exact (Kd.R_reads' HO_4.out).2.1); rintro e w11 ⟨rfl, hb⟩; refine ⟨_, rfl, ?_⟩; have n0_ := Aside0.mk (Kd.R_below (by (with_reducible repeat (first | apply Kd.R_alloc | apply Kd.R_drewN | apply Kd.R_drew)); exact HO_4.out) hb); have n1_ := Aside0.mk (below_step (by repeat (first | (with_reducible first | exact HB.out | apply below_alloc | apply pw_below_drewN | apply below_drew1) | exact HB.out)) hb); clear HO_4; clear HB; have HO_4 := n0_; have HB := n1_; clear n0_ n1_; (try clear hb); (try clear hb2); (try clear hk); (try clear hi)))
     go_ret2
     exact ⟨_, by first | rfl | (simp [errW_none, errW_some] <;> rfl) | (simp [*, errW_none, errW_some] <;> rfl), by (with_reducible repeat (first | apply Kd.R_alloc | apply Kd.R_drewN | apply Kd.R_drew)); exact HO_4.out, by repeat (first | (with_reducible first | exact HB.out | apply below_alloc | apply pw_below_drewN | apply below_drew1) | exact HB.out)⟩
    ·
     replace c9 := Bool.eq_false_iff.mpr c9
     subst c9
     have H1 : (some (([] : List (S45)), false)) = some (r1, r2) := by rw [if_neg (show ¬ (false = true) by decide)] at H; exact H
     clear H
     have H := H1
     clear H1
     simp only [Option.some.injEq, Prod.mk.injEq] at H
     obtain ⟨rfl, rfl⟩ := H
     obtain ⟨Ao12, co12, eo12⟩ := Kd.R_slice HO_4.out
     subst eo12
     go_wp2_with (first | ((with_reducible refine gate_callee (f := 29) rfl ?_); refine goesL_ (some 37) rfl rfl Try.func29 (by kernel_rfl) rfl #[.slice Ao12 x4_1.length co12, .int .i64 (l0.length : Int)] rfl (by (try simp only [List.map_toArray, List.map_cons, List.map_nil]); first | done | rfl | (simp only [List.length_drop, List.length_take]; rfl)) ?_; (with_reducible refine (chain_May.calls k1 _ _ x4_1 (l0.length : Int) false _ ?side1 ?side2 A8.out).mono ?_); (case side1 => repeat (first | exact (Kd.R_reads' HO_4.out).2.2 | (with_reducible refine Kd.C_alloc ?_ _) | (with_reducible refine Kd.C_drewN ?_ _) | (with_reducible refine Kd.C_drew ?_))); (case side2 => exact (Kd.R_reads' HO_4.out).2.1); rintro e w13 ⟨rfl, hb⟩; refine ⟨_, rfl, ?_⟩; have n0_ := Aside0.mk (Kd.R_below (by (with_reducible repeat (first | apply Kd.R_alloc | apply Kd.R_drewN | apply Kd.R_drew)); exact HO_4.out) hb); have n1_ := Aside0.mk (below_step (by repeat (first | (with_reducible first | exact HB.out | apply below_alloc | apply pw_below_drewN | apply below_drew1) | exact HB.out)) hb); clear HO_4; clear HB; have HO_4 := n0_; have HB := n1_; clear n0_ n1_; (try clear hb); (try clear hb2); (try clear hk); (try clear hi)))
     go_ret2
     exact ⟨_, by first | rfl | (simp [errW_none, errW_some] <;> rfl) | (simp [*, errW_none, errW_some] <;> rfl), by first | exact Kd.R_nil _ _ _ _ _ | exact Kd.N_nil _ _ _ _ _ | exact Kd.V_nil _ _ _ _ _ | exact Kd.Q_nil _ _ _ _ _ | exact Kd.S_nil _ _ _ _ _, by repeat (first | (with_reducible first | exact HB.out | apply below_alloc | apply pw_below_drewN | apply below_drew1) | exact HB.out)⟩

/-! ### fit_Need: function 22 -/
def fit_Need.f (a0 : Int) : Option (Int) := if a0 < 1 then (some 0) else (if a0 > 448 then (some 0) else (some (wrap64 ((wrap64 (Int.tdiv (wrap64 (a0 + 7)) 8)) + 1))))
set_option maxHeartbeats 8000000 in
set_option maxRecDepth 100000 in
theorem fit_Need.calls (a0 : Int) (r : Int) (w : World) (h : fit_Need.f a0 = some r) :
  Calls Try.prog 22 #[.int .i64 a0] w fun e w' => e = .returned (.int .i64 r) ∧ Drawn0 w w' := by
 have H : (if a0 < 1 then (some 0) else (if a0 > 448 then (some 0) else (some (wrap64 ((wrap64 (Int.tdiv (wrap64 (a0 + 7)) 8)) + 1))))) = some r := h
 clear h
 by_cases c2 : a0 < 1
 ·
  rw [if_pos c2] at H
  have c2b0 : decide (a0 < 1) = true := decide_eq_true c2
  clear c2
  obtain rfl := Option.some.inj H
  go_enter Try.func22, Try.ntmps22
  go_wp2
  go_ret
  exact ⟨by first | rfl | (simp; done) | (simp [*]; done), by repeat (first | exact Drawn0.refl _ | apply Drawn0.step)⟩
 ·
  rw [if_neg c2] at H
  have c2b0 : decide (a0 < 1) = false := decide_eq_false c2
  clear c2
  by_cases c3 : a0 > 448
  ·
   rw [if_pos c3] at H
   have c3b0 : decide (448 < a0) = true := decide_eq_true c3
   clear c3
   obtain rfl := Option.some.inj H
   go_enter Try.func22, Try.ntmps22
   go_wp2
   go_ret
   exact ⟨by first | rfl | (simp; done) | (simp [*]; done), by repeat (first | exact Drawn0.refl _ | apply Drawn0.step)⟩
  ·
   rw [if_neg c3] at H
   have c3b0 : decide (448 < a0) = false := decide_eq_false c3
   clear c3
   obtain rfl := Option.some.inj H
   go_enter Try.func22, Try.ntmps22
   go_wp2
   go_ret
   exact ⟨by first | rfl | (simp; done) | (simp [*]; done), by repeat (first | exact Drawn0.refl _ | apply Drawn0.step)⟩

end Go.Proofs.Ytglekonhdjploab.XImageFills
