-- Laid by this session's own printer (wip/xprint.py): each Go function that the law reaches as a plain Lean function, and that the call comes to it.
import Derived.Test.YtglekonhdjploabXImageFillsx0
import Derived.Test.YtglekonhdjploabXImageFillsx1
import Derived.Test.YtglekonhdjploabXImageFillsx5
import Derived.Test.YtglekonhdjploabXImageFillsx6
import Derived.Test.YtglekonhdjploabXImageFillsx9
import Derived.Test.YtglekonhdjploabXImageFillsx10
namespace Go.Proofs.Ytglekonhdjploab.XImageFills
open Go.RowKit Go.Proofs.YtglekonhdjploabW.PrintWords Go.Proofs.YtglekonhdjploabW.PrintLast Go.Proofs.YtglekonhdjploabW.PrintMore
attribute [local go_sem] max2_int min2_int max_two min_two max_three min_three max_four min_four   -- for this text's walks alone
set_option linter.unusedVariables false
set_option linter.unusedSimpArgs false

/-! ### darningref4_Need: function 14 -/
def darningref4_Need.f (a0 : Int) : Option (Int) := if a0 < 1 then (some 0) else (if a0 > 448 then (some 0) else (some (wrap64 (1 + (wrap64 (Int.tdiv (wrap64 (a0 + 7)) 8))))))
set_option maxHeartbeats 8000000 in
set_option maxRecDepth 100000 in
theorem darningref4_Need.calls (a0 : Int) (r : Int) (w : World) (h : darningref4_Need.f a0 = some r) :
  Calls Try.prog 14 #[.int .i64 a0] w fun e w' => e = .returned (.int .i64 r) ∧ Drawn0 w w' := by
 have H : (if a0 < 1 then (some 0) else (if a0 > 448 then (some 0) else (some (wrap64 (1 + (wrap64 (Int.tdiv (wrap64 (a0 + 7)) 8))))))) = some r := h
 clear h
 by_cases c2 : a0 < 1
 ·
  rw [if_pos c2] at H
  have c2b0 : decide (a0 < 1) = true := decide_eq_true c2
  clear c2
  obtain rfl := Option.some.inj H
  go_enter Try.func14, Try.ntmps14
  go_wp2
  go_ret
  exact ⟨by first | rfl | (simp; done) | (simp [*]; done), by repeat (first | exact Drawn0.refl _ | apply Drawn0.step)⟩
 ·
  rw [if_neg c2] at H
  have c2b0 : decide (a0 < 1) = false := decide_eq_false c2
  clear c2
  by_cases c3 : a0 > 448
  ·
   rw [if_pos c3] at H
   have c3b0 : decide (448 < a0) = true := decide_eq_true c3
   clear c3
   obtain rfl := Option.some.inj H
   go_enter Try.func14, Try.ntmps14
   go_wp2
   go_ret
   exact ⟨by first | rfl | (simp; done) | (simp [*]; done), by repeat (first | exact Drawn0.refl _ | apply Drawn0.step)⟩
  ·
   rw [if_neg c3] at H
   have c3b0 : decide (448 < a0) = false := decide_eq_false c3
   clear c3
   obtain rfl := Option.some.inj H
   go_enter Try.func14, Try.ntmps14
   go_wp2
   go_ret
   exact ⟨by first | rfl | (simp; done) | (simp [*]; done), by repeat (first | exact Drawn0.refl _ | apply Drawn0.step)⟩

/-! ### darninglaw19_ImageFills: function 4 -/
mutual
def darninglaw19_ImageFills.j1 : Nat → Int → Int → Bool → List Int → List Int → Option (Bool)
 | 0, _, _, _, _, _ => none
 | k + 1, x0, x1, x2, x7, x8 => (darningref4_Need.f x1).bind fun t307 => (if t307 = 0 then (none) else (if (x8.length : Int) = (wrap64 (Int.tdiv (wrap64 (8 * x0)) t307)) then (darninglaw19_ImageFills.j2 k x2 x7 x8 false) else (darninglaw19_ImageFills.j2 k x2 x7 x8 ((x8.length : Int) != (wrap64 (Int.tdiv (wrap64 ((wrap64 (8 * x0)) + 1)) t307))))))
def darninglaw19_ImageFills.j2 : Nat → Bool → List Int → List Int → Bool → Option (Bool)
 | 0, _, _, _, _ => none
 | k + 1, x2, x7, x8, x75 => if x75 = true then (some false) else (darninglaw19_ImageFills.l1 k x2 x7 x8 (x8.length : Int) 0)
def darninglaw19_ImageFills.l1 : Nat → Bool → List Int → List Int → Int → Int → Option (Bool)
 | 0, _, _, _, _, _ => none
 | k + 1, x2, x7, x8, x77, x78 => if x78 < x77 then (if 0 ≤ x78 then (if x78 < (x8.length : Int) then (if x2 = true then (if 0 ≤ (wrap64 ((wrap64 ((x8.length : Int) - 1)) - x78)) then (if (wrap64 ((wrap64 ((x8.length : Int) - 1)) - x78)) < (x8.length : Int) then (darninglaw19_ImageFills.j4 k x2 x7 x8 (rd x8 (wrap64 ((wrap64 ((x8.length : Int) - 1)) - x78))) x77 x78) else (none)) else (none)) else (darninglaw19_ImageFills.j4 k x2 x7 x8 (rd x8 x78) x77 x78)) else (none)) else (none)) else ((chain_Blocks.f k x7).bind fun bt308 => (if bt308.2 = true then (if (bt308.1.length : Int) = 1 then ((darninglaw19_awake.f k).bind fun t312 => (some t312)) else (some false)) else (some false)))
def darninglaw19_ImageFills.j4 : Nat → Bool → List Int → List Int → Int → Int → Int → Option (Bool)
 | 0, _, _, _, _, _, _ => none
 | k + 1, x2, x7, x8, x13, x77, x78 => (image_Free.f k x7 x13).bind fun bt315 => (if bt315.2 = 0 then ((darningref4_Apply.f k x7 bt315.1).bind fun t319 => (darninglaw19_ImageFills.l1 k x2 t319 x8 x77 (wrap64 (x78 + 1)))) else (some false))
def darninglaw19_ImageFills.l0 : Nat → Int → Int → Bool → List Int → List Int → Int → Option (Bool)
 | 0, _, _, _, _, _, _ => none
 | k + 1, x0, x1, x2, x7, x8, x31 => if x31 < 600 then ((image_Alloc.f k x7 x1 ([] : List Int)).bind fun bt296 => (if bt296.2.2 = 0 then ((darningref4_Apply.f k x7 bt296.1).bind fun t301 => (if x8.length < 17592186044416 then (darninglaw19_ImageFills.l0 k x0 x1 x2 t301 (x8 ++ [bt296.2.1]) (wrap64 (x31 + 1))) else (none))) else (if bt296.2.2 = 4 then (if (bt296.1.length : Int) = 0 then (darninglaw19_ImageFills.j1 k x0 x1 x2 x7 x8) else (some false)) else (some false)))) else (darninglaw19_ImageFills.j1 k x0 x1 x2 x7 x8)
end
def darninglaw19_ImageFills.f (k : Nat) (a0 : Int) (a1 : Int) (a2 : Bool) : Option (Bool) := (chain_First.f (wrap64 (8 * (wrap64 (1 + (wrap64 (Int.tmod (IntKind.u64.wrap (a0)) 64))))))).bind fun t293 => (darninglaw19_ImageFills.l0 k (wrap64 (1 + (wrap64 (Int.tmod (IntKind.u64.wrap (a0)) 64)))) (wrap64 (1 + (wrap64 (Int.tmod (IntKind.u64.wrap (a1)) 448)))) a2 t293 ([] : List Int) 0)
theorem darninglaw19_ImageFills.mono_l : ∀ k, (∀ y0 y1 y2 y3 y4, LeO (darninglaw19_ImageFills.j1 k y0 y1 y2 y3 y4) (darninglaw19_ImageFills.j1 (k + 1) y0 y1 y2 y3 y4)) ∧ (∀ y0 y1 y2 y3, LeO (darninglaw19_ImageFills.j2 k y0 y1 y2 y3) (darninglaw19_ImageFills.j2 (k + 1) y0 y1 y2 y3)) ∧ (∀ y0 y1 y2 y3 y4, LeO (darninglaw19_ImageFills.l1 k y0 y1 y2 y3 y4) (darninglaw19_ImageFills.l1 (k + 1) y0 y1 y2 y3 y4)) ∧ (∀ y0 y1 y2 y3 y4 y5, LeO (darninglaw19_ImageFills.j4 k y0 y1 y2 y3 y4 y5) (darninglaw19_ImageFills.j4 (k + 1) y0 y1 y2 y3 y4 y5)) ∧ (∀ y0 y1 y2 y3 y4 y5, LeO (darninglaw19_ImageFills.l0 k y0 y1 y2 y3 y4 y5) (darninglaw19_ImageFills.l0 (k + 1) y0 y1 y2 y3 y4 y5))
 | 0 => ⟨fun _ _ _ _ _ r h => by simp [darninglaw19_ImageFills.j1] at h, fun _ _ _ _ r h => by simp [darninglaw19_ImageFills.j2] at h, fun _ _ _ _ _ r h => by simp [darninglaw19_ImageFills.l1] at h, fun _ _ _ _ _ _ r h => by simp [darninglaw19_ImageFills.j4] at h, fun _ _ _ _ _ _ r h => by simp [darninglaw19_ImageFills.l0] at h⟩
 | k + 1 => by
  obtain ⟨ih0, ih1, ih2, ih3, ih4⟩ := darninglaw19_ImageFills.mono_l k
  refine ⟨?_, ?_, ?_, ?_, ?_⟩
  ·
   intro y0 y1 y2 y3 y4
   unfold darninglaw19_ImageFills.j1
   repeat' first
   | (with_reducible exact ih0 _ _ _ _ _)
   | (with_reducible exact ih1 _ _ _ _)
   | (with_reducible exact ih2 _ _ _ _ _)
   | (with_reducible exact ih3 _ _ _ _ _ _)
   | (with_reducible exact ih4 _ _ _ _ _ _)
   | (with_reducible exact chain_Blocks.mono _ _)
   | (with_reducible exact darninglaw19_awake.mono _)
   | (with_reducible exact darningref4_Apply.mono _ _ _)
   | (with_reducible exact image_Alloc.mono _ _ _ _)
   | (with_reducible exact image_Free.mono _ _ _)
   | (with_reducible exact LeO.refl _)
   | (with_reducible exact LeO.none _)
   | (with_reducible refine LeO.ite ?_ ?_)
   | (with_reducible refine LeO.bind ?_ (fun _ => ?_))
   | exact ih0 _ _ _ _ _
   | exact ih1 _ _ _ _
   | exact ih2 _ _ _ _ _
   | exact ih3 _ _ _ _ _ _
   | exact ih4 _ _ _ _ _ _
   | exact chain_Blocks.mono _ _
   | exact darninglaw19_awake.mono _
   | exact darningref4_Apply.mono _ _ _
   | exact image_Alloc.mono _ _ _ _
   | exact image_Free.mono _ _ _
   | exact LeO.none _
   | refine LeO.ite ?_ ?_
   | refine LeO.bind ?_ (fun _ => ?_)
  ·
   intro y0 y1 y2 y3
   unfold darninglaw19_ImageFills.j2
   repeat' first
   | (with_reducible exact ih0 _ _ _ _ _)
   | (with_reducible exact ih1 _ _ _ _)
   | (with_reducible exact ih2 _ _ _ _ _)
   | (with_reducible exact ih3 _ _ _ _ _ _)
   | (with_reducible exact ih4 _ _ _ _ _ _)
   | (with_reducible exact chain_Blocks.mono _ _)
   | (with_reducible exact darninglaw19_awake.mono _)
   | (with_reducible exact darningref4_Apply.mono _ _ _)
   | (with_reducible exact image_Alloc.mono _ _ _ _)
   | (with_reducible exact image_Free.mono _ _ _)
   | (with_reducible exact LeO.refl _)
   | (with_reducible exact LeO.none _)
   | (with_reducible refine LeO.ite ?_ ?_)
   | (with_reducible refine LeO.bind ?_ (fun _ => ?_))
   | exact ih0 _ _ _ _ _
   | exact ih1 _ _ _ _
   | exact ih2 _ _ _ _ _
   | exact ih3 _ _ _ _ _ _
   | exact ih4 _ _ _ _ _ _
   | exact chain_Blocks.mono _ _
   | exact darninglaw19_awake.mono _
   | exact darningref4_Apply.mono _ _ _
   | exact image_Alloc.mono _ _ _ _
   | exact image_Free.mono _ _ _
   | exact LeO.none _
   | refine LeO.ite ?_ ?_
   | refine LeO.bind ?_ (fun _ => ?_)
  ·
   intro y0 y1 y2 y3 y4
   unfold darninglaw19_ImageFills.l1
   repeat' first
   | (with_reducible exact ih0 _ _ _ _ _)
   | (with_reducible exact ih1 _ _ _ _)
   | (with_reducible exact ih2 _ _ _ _ _)
   | (with_reducible exact ih3 _ _ _ _ _ _)
   | (with_reducible exact ih4 _ _ _ _ _ _)
   | (with_reducible exact chain_Blocks.mono _ _)
   | (with_reducible exact darninglaw19_awake.mono _)
   | (with_reducible exact darningref4_Apply.mono _ _ _)
   | (with_reducible exact image_Alloc.mono _ _ _ _)
   | (with_reducible exact image_Free.mono _ _ _)
   | (with_reducible exact LeO.refl _)
   | (with_reducible exact LeO.none _)
   | (with_reducible refine LeO.ite ?_ ?_)
   | (with_reducible refine LeO.bind ?_ (fun _ => ?_))
   | exact ih0 _ _ _ _ _
   | exact ih1 _ _ _ _
   | exact ih2 _ _ _ _ _
   | exact ih3 _ _ _ _ _ _
   | exact ih4 _ _ _ _ _ _
   | exact chain_Blocks.mono _ _
   | exact darninglaw19_awake.mono _
   | exact darningref4_Apply.mono _ _ _
   | exact image_Alloc.mono _ _ _ _
   | exact image_Free.mono _ _ _
   | exact LeO.none _
   | refine LeO.ite ?_ ?_
   | refine LeO.bind ?_ (fun _ => ?_)
  ·
   intro y0 y1 y2 y3 y4 y5
   unfold darninglaw19_ImageFills.j4
   repeat' first
   | (with_reducible exact ih0 _ _ _ _ _)
   | (with_reducible exact ih1 _ _ _ _)
   | (with_reducible exact ih2 _ _ _ _ _)
   | (with_reducible exact ih3 _ _ _ _ _ _)
   | (with_reducible exact ih4 _ _ _ _ _ _)
   | (with_reducible exact chain_Blocks.mono _ _)
   | (with_reducible exact darninglaw19_awake.mono _)
   | (with_reducible exact darningref4_Apply.mono _ _ _)
   | (with_reducible exact image_Alloc.mono _ _ _ _)
   | (with_reducible exact image_Free.mono _ _ _)
   | (with_reducible exact LeO.refl _)
   | (with_reducible exact LeO.none _)
   | (with_reducible refine LeO.ite ?_ ?_)
   | (with_reducible refine LeO.bind ?_ (fun _ => ?_))
   | exact ih0 _ _ _ _ _
   | exact ih1 _ _ _ _
   | exact ih2 _ _ _ _ _
   | exact ih3 _ _ _ _ _ _
   | exact ih4 _ _ _ _ _ _
   | exact chain_Blocks.mono _ _
   | exact darninglaw19_awake.mono _
   | exact darningref4_Apply.mono _ _ _
   | exact image_Alloc.mono _ _ _ _
   | exact image_Free.mono _ _ _
   | exact LeO.none _
   | refine LeO.ite ?_ ?_
   | refine LeO.bind ?_ (fun _ => ?_)
  ·
   intro y0 y1 y2 y3 y4 y5
   unfold darninglaw19_ImageFills.l0
   repeat' first
   | (with_reducible exact ih0 _ _ _ _ _)
   | (with_reducible exact ih1 _ _ _ _)
   | (with_reducible exact ih2 _ _ _ _ _)
   | (with_reducible exact ih3 _ _ _ _ _ _)
   | (with_reducible exact ih4 _ _ _ _ _ _)
   | (with_reducible exact chain_Blocks.mono _ _)
   | (with_reducible exact darninglaw19_awake.mono _)
   | (with_reducible exact darningref4_Apply.mono _ _ _)
   | (with_reducible exact image_Alloc.mono _ _ _ _)
   | (with_reducible exact image_Free.mono _ _ _)
   | (with_reducible exact LeO.refl _)
   | (with_reducible exact LeO.none _)
   | (with_reducible refine LeO.ite ?_ ?_)
   | (with_reducible refine LeO.bind ?_ (fun _ => ?_))
   | exact ih0 _ _ _ _ _
   | exact ih1 _ _ _ _
   | exact ih2 _ _ _ _ _
   | exact ih3 _ _ _ _ _ _
   | exact ih4 _ _ _ _ _ _
   | exact chain_Blocks.mono _ _
   | exact darninglaw19_awake.mono _
   | exact darningref4_Apply.mono _ _ _
   | exact image_Alloc.mono _ _ _ _
   | exact image_Free.mono _ _ _
   | exact LeO.none _
   | refine LeO.ite ?_ ?_
   | refine LeO.bind ?_ (fun _ => ?_)
theorem darninglaw19_ImageFills.mono : ∀ a0 a1 a2 k, LeO (darninglaw19_ImageFills.f k a0 a1 a2) (darninglaw19_ImageFills.f (k + 1) a0 a1 a2) := by
 intro a0 a1 a2 k
 obtain ⟨ih0, ih1, ih2, ih3, ih4⟩ := darninglaw19_ImageFills.mono_l k
 unfold darninglaw19_ImageFills.f
 repeat' first
   | (with_reducible exact ih0 _ _ _ _ _)
   | (with_reducible exact ih1 _ _ _ _)
   | (with_reducible exact ih2 _ _ _ _ _)
   | (with_reducible exact ih3 _ _ _ _ _ _)
   | (with_reducible exact ih4 _ _ _ _ _ _)
   | (with_reducible exact chain_Blocks.mono _ _)
   | (with_reducible exact darninglaw19_awake.mono _)
   | (with_reducible exact darningref4_Apply.mono _ _ _)
   | (with_reducible exact image_Alloc.mono _ _ _ _)
   | (with_reducible exact image_Free.mono _ _ _)
   | (with_reducible exact LeO.refl _)
   | (with_reducible exact LeO.none _)
   | (with_reducible refine LeO.ite ?_ ?_)
   | (with_reducible refine LeO.bind ?_ (fun _ => ?_))
   | exact ih0 _ _ _ _ _
   | exact ih1 _ _ _ _
   | exact ih2 _ _ _ _ _
   | exact ih3 _ _ _ _ _ _
   | exact ih4 _ _ _ _ _ _
   | exact chain_Blocks.mono _ _
   | exact darninglaw19_awake.mono _
   | exact darningref4_Apply.mono _ _ _
   | exact image_Alloc.mono _ _ _ _
   | exact image_Free.mono _ _ _
   | exact LeO.none _
   | refine LeO.ite ?_ ?_
   | refine LeO.bind ?_ (fun _ => ?_)
set_option maxHeartbeats 8000000 in
set_option maxRecDepth 100000 in
theorem darninglaw19_ImageFills.calls (k : Nat) (a0 : Int) (a1 : Int) (a2 : Bool) (w : World) (h : darninglaw19_ImageFills.f k a0 a1 a2 = some true) :
  Calls Try.prog 4 #[.int .i64 a0, .int .i64 a1, .bool a2] w fun e w' => e = .returned (.bool true) ∧ Below w.heap.size w w' := by
 have HB := Aside0.mk (Below.refl w.heap.size w)
 have H : ((chain_First.f (wrap64 (8 * (wrap64 (1 + (wrap64 (Int.tmod (IntKind.u64.wrap (a0)) 64))))))).bind fun t293 => (darninglaw19_ImageFills.l0 k (wrap64 (1 + (wrap64 (Int.tmod (IntKind.u64.wrap (a0)) 64)))) (wrap64 (1 + (wrap64 (Int.tmod (IntKind.u64.wrap (a1)) 448)))) a2 t293 ([] : List Int) 0)) = some true := h
 clear h
 replace H := Option.bind_eq_some_iff.mp H
 obtain ⟨t293, A40, H⟩ := H
 replace H : (darninglaw19_ImageFills.l0 k (wrap64 (1 + (wrap64 (Int.tmod (IntKind.u64.wrap (a0)) 64)))) (wrap64 (1 + (wrap64 (Int.tmod (IntKind.u64.wrap (a1)) 448)))) a2 t293 ([] : List Int) 0) = some true := H
 have A4 := Aside0.mk A40
 clear A40
 have HC5 := Aside0.mk H
 clear H
 go_enter Try.func4, Try.ntmps4
 go_upto_block 0 with (first | ((with_reducible refine gate_callee (f := 13) rfl ?_); refine goesL_ (some 30) rfl rfl Try.func13 (by kernel_rfl) rfl #[.int .i64 (wrap64 (8 * (wrap64 (1 + (wrap64 (Int.tmod (IntKind.u64.wrap (a0)) 64))))))] rfl (by (try simp only [List.map_toArray, List.map_cons, List.map_nil]); first | done | rfl | (simp only [List.length_drop, List.length_take]; rfl)) ?_; (with_reducible refine (chain_First.calls (wrap64 (8 * (wrap64 (1 + (wrap64 (Int.tmod (IntKind.u64.wrap (a0)) 64)))))) t293 _ A4.out).mono ?_); rintro e w6 ⟨v294, rfl, ho0, hb⟩; refine ⟨_, rfl, ?_⟩; have n0_ := Aside0.mk (Kd.R_lower ho0 (below_size (by repeat (first | (with_reducible first | exact HB.out | apply below_alloc | apply pw_below_drewN | apply below_drew1) | exact HB.out)))); have n1_ := Aside0.mk (below_step (by repeat (first | (with_reducible first | exact HB.out | apply below_alloc | apply pw_below_drewN | apply below_drew1) | exact HB.out)) hb); clear HB; have HO295 := n0_; have HB := n1_; clear n0_ n1_; (try clear hb); (try clear hb2); (try clear hk); (try clear hi); (try clear ho0)))
 (try simp only [Act.put, List.setIfInBounds_toArray, List.set_cons_zero, List.set_cons_succ])
 go_cut [7, 8] (fun v7 v8 wc => ∃ (kq : Nat) (x7_4 : List Int) (x8_4 : List Int), Aside0 (darninglaw19_ImageFills.j1 kq (wrap64 (1 + (wrap64 (Int.tmod (IntKind.u64.wrap (a0)) 64)))) (wrap64 (1 + (wrap64 (Int.tmod (IntKind.u64.wrap (a1)) 448)))) a2 x7_4 x8_4 = some true) ∧ Aside0 (kq ≤ k) ∧ Aside0 (Kd.R (Kd.int .u64) 39 wc w.heap.size (fun _ => True) v7 x7_4) ∧ Aside0 (Kd.R (Kd.int .i64) 3 wc w.heap.size (fun _ => True) v8 x8_4) ∧ Aside0 (Below w.heap.size w wc))
 case first =>
  have H := HC5.out
  clear HC5
  have H' := Aside0.mk H
  clear H
  go_wp2
  go_loopg [7, 8, 31] k (fun kq v7 v8 v31 w' => ∃ (x7_1 : List Int) (x8_1 : List Int) (x31_1 : Int), v31 = .int .i64 x31_1 ∧ Aside0 (darninglaw19_ImageFills.l0 kq (wrap64 (1 + (wrap64 (Int.tmod (IntKind.u64.wrap (a0)) 64)))) (wrap64 (1 + (wrap64 (Int.tmod (IntKind.u64.wrap (a1)) 448)))) a2 x7_1 x8_1 x31_1 = some true) ∧ Aside0 (kq ≤ k) ∧ Aside0 (Kd.R (Kd.int .u64) 39 w' w.heap.size (fun _ => True) v7 x7_1) ∧ Aside0 (Kd.R (Kd.int .i64) 3 w' w.heap.size (fun _ => True) v8 x8_1) ∧ Aside0 (Below w.heap.size w w'))
  case atStart => exact ⟨(t293), (([] : List Int)), (0), (by first | rfl | (simp; done) | (simp [*]; done)), H', ⟨Nat.le_refl _⟩, ⟨by (with_reducible repeat (first | apply Kd.R_alloc | apply Kd.R_drewN | apply Kd.R_drew)); exact HO295.out⟩, ⟨by first | exact Kd.R_nil _ _ _ _ _ | exact Kd.N_nil _ _ _ _ _ | exact Kd.V_nil _ _ _ _ _ | exact Kd.Q_nil _ _ _ _ _ | exact Kd.S_nil _ _ _ _ _⟩, ⟨by repeat (first | (with_reducible first | exact HB.out | apply below_alloc | apply pw_below_drewN | apply below_drew1) | exact HB.out)⟩⟩
  case round =>
   clear H'
   try clear c1
   try clear p2
   try clear c4
   try clear p6
   obtain ⟨x7_1, x8_1, x31_1, rfl, HA, HK1, HO_7, HO_8, HB⟩ := hrel
   cases gk with
   | zero => exact absurd HA.out (by simp [darninglaw19_ImageFills.l0])
   | succ k1 =>
    have H := HA.out
    clear HA
    simp only [darninglaw19_ImageFills.l0] at H
    by_cases c7 : x31_1 < 600
    ·
     rw [if_pos c7] at H
     have c7b0 : decide (x31_1 < 600) = true := decide_eq_true c7
     clear c7
     (first | rw [c7b0] | (simp only [i64_w, i32_w]; rw [c7b0]) | skip)
     replace H := Option.bind_eq_some_iff.mp H
     obtain ⟨⟨t296, t297, t298⟩, A80, H⟩ := H
     replace H : (if t298 = 0 then ((darningref4_Apply.f k1 x7_1 t296).bind fun t301 => (if x8_1.length < 17592186044416 then (darninglaw19_ImageFills.l0 k1 (wrap64 (1 + (wrap64 (Int.tmod (IntKind.u64.wrap (a0)) 64)))) (wrap64 (1 + (wrap64 (Int.tmod (IntKind.u64.wrap (a1)) 448)))) a2 t301 (x8_1 ++ [t297]) (wrap64 (x31_1 + 1))) else (none))) else (if t298 = 4 then (if (t296.length : Int) = 0 then (darninglaw19_ImageFills.j1 k1 (wrap64 (1 + (wrap64 (Int.tmod (IntKind.u64.wrap (a0)) 64)))) (wrap64 (1 + (wrap64 (Int.tmod (IntKind.u64.wrap (a1)) 448)))) a2 x7_1 x8_1) else (some false)) else (some false))) = some true := H
     have A8 := Aside0.mk A80
     clear A80
     by_cases c9 : t298 = 0
     ·
      rw [if_pos c9] at H
      have c9b0 : (t298 == 0) = true := beq_iff_eq.mpr c9
      have c9b1 : (t298 != 0) = false := bne_eq_false_iff_eq.mpr c9
      clear c9
      replace H := Option.bind_eq_some_iff.mp H
      obtain ⟨t301, A100, H⟩ := H
      replace H : (if x8_1.length < 17592186044416 then (darninglaw19_ImageFills.l0 k1 (wrap64 (1 + (wrap64 (Int.tmod (IntKind.u64.wrap (a0)) 64)))) (wrap64 (1 + (wrap64 (Int.tmod (IntKind.u64.wrap (a1)) 448)))) a2 t301 (x8_1 ++ [t297]) (wrap64 (x31_1 + 1))) else (none)) = some true := H
      have A10 := Aside0.mk A100
      clear A100
      by_cases c11 : x8_1.length < 17592186044416
      ·
       rw [if_pos c11] at H
       have LMc11 := Aside0.mk c11
       clear c11
       obtain ⟨y304, hy304⟩ : ∃ y_ : List Int, y_ = (x8_1 ++ [t297]) := ⟨_, rfl⟩
       replace H : (darninglaw19_ImageFills.l0 k1 (wrap64 (1 + (wrap64 (Int.tmod (IntKind.u64.wrap (a0)) 64)))) (wrap64 (1 + (wrap64 (Int.tmod (IntKind.u64.wrap (a1)) 448)))) a2 t301 y304 (wrap64 (x31_1 + 1))) = some true := by first | (rw [hy304]; with_reducible exact H) | (have H2_ := (Option.bind_some _ _).symm.trans H; rw [hy304]; with_reducible exact H2_) | (have H2_ := (Option.bind_some _ _).symm.trans H; with_reducible exact H2_) | with_reducible exact H | (rw [hy304]; exact H) | exact H
       have Ny304 := Aside0.mk hy304
       clear hy304
       have H' := Aside0.mk H
       clear H
       obtain ⟨Ao12, co12, eo12⟩ := Kd.R_slice HO_7.out
       subst eo12
       go_wp2_with (first | ((with_reducible refine gate_callee (f := 8) rfl ?_); refine goesL_ (some 36) rfl rfl Try.func8 (by kernel_rfl) rfl #[.slice Ao12 x7_1.length co12, .int .i64 (wrap64 (1 + (wrap64 (Int.tmod (IntKind.u64.wrap (a1)) 448)))), .slice none 0 0] rfl (by (try simp only [List.map_toArray, List.map_cons, List.map_nil]); first | done | rfl | (simp only [List.length_drop, List.length_take]; rfl)) ?_; (refine (image_Alloc.calls k1 _ _ x7_1 (wrap64 (1 + (wrap64 (Int.tmod (IntKind.u64.wrap (a1)) 448)))) _ _ ([] : List Int) t296 t297 t298 _ ?side1 ?side2 ?side3 ?side4 A8.out).mono ?_); (case side1 => repeat (first | exact (Kd.R_reads' HO_7.out).2.2 | (with_reducible refine Kd.C_alloc ?_ _) | (with_reducible refine Kd.C_drewN ?_ _) | (with_reducible refine Kd.C_drew ?_))); (case side2 => exact (Kd.R_reads' HO_7.out).2.1); (case side3 => exact Kd.C_nil _ _); (case side4 => exact Nat.le_refl _); rintro e w13 ⟨v299, rfl, ho0, hb⟩; refine ⟨_, rfl, ?_⟩; have n0_ := Aside0.mk (Kd.R_below (by (with_reducible repeat (first | apply Kd.R_alloc | apply Kd.R_drewN | apply Kd.R_drew)); exact HO_7.out) hb); have n1_ := Aside0.mk (Kd.R_below (by (with_reducible repeat (first | apply Kd.R_alloc | apply Kd.R_drewN | apply Kd.R_drew)); exact HO_8.out) hb); have n2_ := Aside0.mk (Kd.R_lower ho0 (below_size (by repeat (first | (with_reducible first | exact HB.out | apply below_alloc | apply pw_below_drewN | apply below_drew1) | exact HB.out)))); have n3_ := Aside0.mk (below_step (by repeat (first | (with_reducible first | exact HB.out | apply below_alloc | apply pw_below_drewN | apply below_drew1) | exact HB.out)) hb); clear HO_7; clear HO_8; clear HB; have HO_7 := n0_; have HO_8 := n1_; have HO300 := n2_; have HB := n3_; clear n0_ n1_ n2_ n3_; (try clear hb); (try clear hb2); (try clear hk); (try clear hi); (try clear ho0); obtain ⟨Ao14, co14, eo14⟩ := Kd.R_slice HO300.out; subst eo14) | ((with_reducible refine gate_callee (f := 9) rfl ?_); refine goesL_ (some 51) rfl rfl Try.func9 (by kernel_rfl) rfl #[.slice Ao12 x7_1.length co12, .slice Ao14 t296.length co14] rfl (by (try simp only [List.map_toArray, List.map_cons, List.map_nil]); first | done | rfl | (simp only [List.length_drop, List.length_take]; rfl)) ?_; (with_reducible refine (darningref4_Apply.calls k1 _ _ x7_1 _ _ t296 t301 _ ?side1 ?side2 ?side3 ?side4 A10.out).mono ?_); (case side1 => repeat (first | exact (Kd.R_reads' HO_7.out).2.2 | (with_reducible refine Kd.C_alloc ?_ _) | (with_reducible refine Kd.C_drewN ?_ _) | (with_reducible refine Kd.C_drew ?_))); (case side2 => exact (Kd.R_reads' HO_7.out).2.1); (case side3 => repeat (first | exact (Kd.R_reads' HO300.out).2.2 | (with_reducible refine Kd.C_alloc ?_ _) | (with_reducible refine Kd.C_drewN ?_ _) | (with_reducible refine Kd.C_drew ?_))); (case side4 => exact (Kd.R_reads' HO300.out).2.1); rintro e w15 ⟨v302, rfl, ho0, hb⟩; refine ⟨_, rfl, ?_⟩; have n0_ := Aside0.mk (Kd.R_elder' (by (with_reducible repeat (first | apply Kd.R_alloc | apply Kd.R_drewN | apply Kd.R_drew)); exact HO_7.out) (Kd.R_base ho0) hb); have n1_ := Aside0.mk (Kd.R_below (by (with_reducible repeat (first | apply Kd.R_alloc | apply Kd.R_drewN | apply Kd.R_drew)); exact HO_8.out) hb); have n2_ := Aside0.mk (Kd.R_below (by (with_reducible repeat (first | apply Kd.R_alloc | apply Kd.R_drewN | apply Kd.R_drew)); exact HO300.out) hb); have n3_ := Aside0.mk (Kd.R_lower (Kd.R_new' ho0 (Kd.R_lt (by (with_reducible repeat (first | apply Kd.R_alloc | apply Kd.R_drewN | apply Kd.R_drew)); exact HO_7.out))) (below_size (by repeat (first | (with_reducible first | exact HB.out | apply below_alloc | apply pw_below_drewN | apply below_drew1) | exact HB.out)))); have n4_ := Aside0.mk (below_step (by repeat (first | (with_reducible first | exact HB.out | apply below_alloc | apply pw_below_drewN | apply below_drew1) | exact HB.out)) hb); clear HO_7; clear HO_8; clear HO300; clear HB; have HO_7 := n0_; have HO_8 := n1_; have HO300 := n2_; have HO303 := n3_; have HB := n4_; clear n0_ n1_ n2_ n3_ n4_; (try clear hb); (try clear hb2); (try clear hk); (try clear hi); (try clear ho0)) | ((with_reducible refine gate_builtin (b := .append) (xs := #[.tmp 52, .tmp 54]) rfl ?_); (try (refine gate_guard (by rfl) ?_; dsimp only)); at_builtin; refine Kd.R_append (Kd.int .i64) (w0 := w) w.heap.size rfl (.tmp 52) (.tmp 54) 23 3 (.int .i64 0) 8 rfl Try.underlying23 info3 rfl (by decide) (by omega) u8 x8_1 t297 [.int .i64 t297] (fun _ => True) (fun _ => False) rfl rfl ?aP (fun _ hk => hk.elim) ?aF ?aO ?aB ?aS ?aL ?_; (case aP => exact rfl); (case aB => exact (by repeat (first | (with_reducible first | exact HB.out | apply below_alloc | apply pw_below_drewN | apply below_drew1) | exact HB.out))); (case aF => exact (fun _ _ => trivial)); (case aO => exact (by (with_reducible repeat (first | apply Kd.R_alloc | apply Kd.R_drewN | apply Kd.R_drew)); exact HO_8.out)); (case aS => exact (below_size (by repeat (first | (with_reducible first | exact HB.out | apply below_alloc | apply pw_below_drewN | apply below_drew1) | exact HB.out)))); (case aL => have := LMc11.out; omega); intro v305 w16 ho hb hg hat; rw [← Ny304.out] at ho; have n0_ := Aside0.mk (Kd.R_over' (by (with_reducible repeat (first | apply Kd.R_alloc | apply Kd.R_drewN | apply Kd.R_drew)); exact HO_7.out) (Kd.R_typed (by (with_reducible repeat (first | apply Kd.R_alloc | apply Kd.R_drewN | apply Kd.R_drew)); exact HO_8.out)) (by decide) hg); have n1_ := Aside0.mk (Kd.R_over' (by (with_reducible repeat (first | apply Kd.R_alloc | apply Kd.R_drewN | apply Kd.R_drew)); exact HO300.out) (Kd.R_typed (by (with_reducible repeat (first | apply Kd.R_alloc | apply Kd.R_drewN | apply Kd.R_drew)); exact HO_8.out)) (by decide) hg); have n2_ := Aside0.mk (Kd.R_over' (by (with_reducible repeat (first | apply Kd.R_alloc | apply Kd.R_drewN | apply Kd.R_drew)); exact HO303.out) (Kd.R_typed (by (with_reducible repeat (first | apply Kd.R_alloc | apply Kd.R_drewN | apply Kd.R_drew)); exact HO_8.out)) (by decide) hg); have n3_ := Aside0.mk (hb); have n4_ := Aside0.mk (ho); clear HO_7; clear HO300; clear HO303; clear HB; clear HO_8; have HO_7 := n0_; have HO300 := n1_; have HO303 := n2_; have HB := n3_; have HO306 := n4_; clear n0_ n1_ n2_ n3_ n4_; clear ho hb hg hat))
       go_roundg k1
       case measure => have := HK1.out; omega
       case rel => exact ⟨(t301), (y304), (wrap64 (x31_1 + 1)), (by first | rfl | (simp; done) | (simp [*]; done)), H', ⟨by have := HK1.out; omega⟩, ⟨by (with_reducible repeat (first | apply Kd.R_alloc | apply Kd.R_drewN | apply Kd.R_drew)); exact Kd.R_mono HO303.out (fun _ hk => trivial)⟩, ⟨by (with_reducible repeat (first | apply Kd.R_alloc | apply Kd.R_drewN | apply Kd.R_drew)); exact HO306.out⟩, ⟨by repeat (first | (with_reducible first | exact HB.out | apply below_alloc | apply pw_below_drewN | apply below_drew1) | exact HB.out)⟩⟩
      ·
       rw [if_neg c11] at H
       exact absurd H (by simp)
     ·
      rw [if_neg c9] at H
      have c9b0 : (t298 == 0) = false := beq_eq_false_iff_ne.mpr c9
      have c9b1 : (t298 != 0) = true := bne_iff_ne.mpr c9
      by_cases c17 : t298 = 4
      ·
       rw [if_pos c17] at H
       have c17b0 : (t298 == 4) = true := beq_iff_eq.mpr c17
       have c17b1 : (t298 != 4) = false := bne_eq_false_iff_eq.mpr c17
       clear c17
       by_cases c18 : (t296.length : Int) = 0
       ·
        rw [if_pos c18] at H
        have c18b0 : ((t296.length : Int) == 0) = true := beq_iff_eq.mpr c18
        have c18b1 : ((t296.length : Int) != 0) = false := bne_eq_false_iff_eq.mpr c18
        clear c18
        have H' := Aside0.mk H
        clear H
        obtain ⟨Ao19, co19, eo19⟩ := Kd.R_slice HO_7.out
        subst eo19
        go_wp2_with (first | ((with_reducible refine gate_callee (f := 8) rfl ?_); refine goesL_ (some 36) rfl rfl Try.func8 (by kernel_rfl) rfl #[.slice Ao19 x7_1.length co19, .int .i64 (wrap64 (1 + (wrap64 (Int.tmod (IntKind.u64.wrap (a1)) 448)))), .slice none 0 0] rfl (by (try simp only [List.map_toArray, List.map_cons, List.map_nil]); first | done | rfl | (simp only [List.length_drop, List.length_take]; rfl)) ?_; (refine (image_Alloc.calls k1 _ _ x7_1 (wrap64 (1 + (wrap64 (Int.tmod (IntKind.u64.wrap (a1)) 448)))) _ _ ([] : List Int) t296 t297 t298 _ ?side1 ?side2 ?side3 ?side4 A8.out).mono ?_); (case side1 => repeat (first | exact (Kd.R_reads' HO_7.out).2.2 | (with_reducible refine Kd.C_alloc ?_ _) | (with_reducible refine Kd.C_drewN ?_ _) | (with_reducible refine Kd.C_drew ?_))); (case side2 => exact (Kd.R_reads' HO_7.out).2.1); (case side3 => exact Kd.C_nil _ _); (case side4 => exact Nat.le_refl _); rintro e w20 ⟨v299, rfl, ho0, hb⟩; refine ⟨_, rfl, ?_⟩; have n0_ := Aside0.mk (Kd.R_below (by (with_reducible repeat (first | apply Kd.R_alloc | apply Kd.R_drewN | apply Kd.R_drew)); exact HO_7.out) hb); have n1_ := Aside0.mk (Kd.R_below (by (with_reducible repeat (first | apply Kd.R_alloc | apply Kd.R_drewN | apply Kd.R_drew)); exact HO_8.out) hb); have n2_ := Aside0.mk (Kd.R_lower ho0 (below_size (by repeat (first | (with_reducible first | exact HB.out | apply below_alloc | apply pw_below_drewN | apply below_drew1) | exact HB.out)))); have n3_ := Aside0.mk (below_step (by repeat (first | (with_reducible first | exact HB.out | apply below_alloc | apply pw_below_drewN | apply below_drew1) | exact HB.out)) hb); clear HO_7; clear HO_8; clear HB; have HO_7 := n0_; have HO_8 := n1_; have HO300 := n2_; have HB := n3_; clear n0_ n1_ n2_ n3_; (try clear hb); (try clear hb2); (try clear hk); (try clear hi); (try clear ho0); obtain ⟨Ao21, co21, eo21⟩ := Kd.R_slice HO300.out; subst eo21))
        go_meet
        case rel => exact ⟨_, (x7_1), (x8_1), H', ⟨by have := HK1.out; first | omega | exact Nat.le_refl _⟩, ⟨by (with_reducible repeat (first | apply Kd.R_alloc | apply Kd.R_drewN | apply Kd.R_drew)); exact HO_7.out⟩, ⟨by (with_reducible repeat (first | apply Kd.R_alloc | apply Kd.R_drewN | apply Kd.R_drew)); exact HO_8.out⟩, ⟨by repeat (first | (with_reducible first | exact HB.out | apply below_alloc | apply pw_below_drewN | apply below_drew1) | exact HB.out)⟩⟩
       ·
        rw [if_neg c18] at H
        have c18b0 : ((t296.length : Int) == 0) = false := beq_eq_false_iff_ne.mpr c18
        have c18b1 : ((t296.length : Int) != 0) = true := bne_iff_ne.mpr c18
        have c18b2 : ¬ (t296 = []) := fun h_ => c18 (by rw [h_]; rfl)
        exact absurd H (by simp)
      ·
       rw [if_neg c17] at H
       have c17b0 : (t298 == 4) = false := beq_eq_false_iff_ne.mpr c17
       have c17b1 : (t298 != 4) = true := bne_iff_ne.mpr c17
       exact absurd H (by simp)
    ·
     rw [if_neg c7] at H
     have c7b0 : decide (x31_1 < 600) = false := decide_eq_false c7
     clear c7
     (first | rw [c7b0] | (simp only [i64_w, i32_w]; rw [c7b0]) | skip)
     have H' := Aside0.mk H
     clear H
     go_wp2
     go_meet
     case rel => exact ⟨_, (x7_1), (x8_1), H', ⟨by have := HK1.out; first | omega | exact Nat.le_refl _⟩, ⟨by (with_reducible repeat (first | apply Kd.R_alloc | apply Kd.R_drewN | apply Kd.R_drew)); exact HO_7.out⟩, ⟨by (with_reducible repeat (first | apply Kd.R_alloc | apply Kd.R_drewN | apply Kd.R_drew)); exact HO_8.out⟩, ⟨by repeat (first | (with_reducible first | exact HB.out | apply below_alloc | apply pw_below_drewN | apply below_drew1) | exact HB.out)⟩⟩
 case rest =>
  clear HC5
  try clear c1
  try clear p2
  try clear c4
  try clear p6
  try clear c7
  try clear c7b0
  try clear c8
  try clear c9
  try clear c9b0
  try clear c9b1
  try clear c11
  try clear c13
  try clear c17
  try clear c17b0
  try clear c17b1
  try clear c18
  try clear c18b0
  try clear c18b1
  try clear c18b2
  try clear p2
  try clear p6
  obtain ⟨kq, x7_4, x8_4, HA, HJ4, HO_7, HO_8, HB⟩ := hcut
  cases kq with
  | zero => exact absurd HA.out (by simp [darninglaw19_ImageFills.j1])
  | succ kj4 =>
   have H := HA.out
   clear HA
   simp only [darninglaw19_ImageFills.j1] at H
   have HC22 := Aside0.mk H
   clear H
   go_upto_region 13 with (fail)
   go_cut [75] (fun v75 wc => ∃ (kq : Nat) (x75_21 : Bool), v75 = .bool x75_21 ∧ Aside0 (darninglaw19_ImageFills.j2 kq a2 x7_4 x8_4 x75_21 = some true) ∧ Aside0 (kq ≤ kj4) ∧ Aside0 (Kd.R (Kd.int .u64) 39 wc w.heap.size (fun _ => True) u7 x7_4) ∧ Aside0 (Kd.R (Kd.int .i64) 3 wc w.heap.size (fun _ => True) u8 x8_4) ∧ Aside0 (Below w.heap.size w wc))
   case first =>
    have H := HC22.out
    clear HC22
    replace H := Option.bind_eq_some_iff.mp H
    obtain ⟨t307, A230, H⟩ := H
    replace H : (if t307 = 0 then (none) else (if (x8_4.length : Int) = (wrap64 (Int.tdiv (wrap64 (8 * (wrap64 (1 + (wrap64 (Int.tmod (IntKind.u64.wrap (a0)) 64)))))) t307)) then (darninglaw19_ImageFills.j2 kj4 a2 x7_4 x8_4 false) else (darninglaw19_ImageFills.j2 kj4 a2 x7_4 x8_4 ((x8_4.length : Int) != (wrap64 (Int.tdiv (wrap64 ((wrap64 (8 * (wrap64 (1 + (wrap64 (Int.tmod (IntKind.u64.wrap (a0)) 64)))))) + 1)) t307)))))) = some true := H
    have A23 := Aside0.mk A230
    clear A230
    by_cases c24 : t307 = 0
    ·
     rw [if_pos c24] at H
     exact absurd H (by simp)
    ·
     rw [if_neg c24] at H
     have c24b0 : (t307 == 0) = false := beq_eq_false_iff_ne.mpr c24
     have c24b1 : (t307 != 0) = true := bne_iff_ne.mpr c24
     (first | rw [c24b0] | (simp only [i64_w, i32_w]; rw [c24b0]) | skip)
     by_cases c25 : (x8_4.length : Int) = (wrap64 (Int.tdiv (wrap64 (8 * (wrap64 (1 + (wrap64 (Int.tmod (IntKind.u64.wrap (a0)) 64)))))) t307))
     ·
      rw [if_pos c25] at H
      have c25b0 : ((x8_4.length : Int) == (wrap64 (Int.tdiv (wrap64 (8 * (wrap64 (1 + (wrap64 (Int.tmod (IntKind.u64.wrap (a0)) 64)))))) t307))) = true := beq_iff_eq.mpr c25
      have c25b1 : ((x8_4.length : Int) != (wrap64 (Int.tdiv (wrap64 (8 * (wrap64 (1 + (wrap64 (Int.tmod (IntKind.u64.wrap (a0)) 64)))))) t307))) = false := bne_eq_false_iff_eq.mpr c25
      clear c25
      have H' := Aside0.mk H
      clear H
      obtain ⟨Ao26, co26, eo26⟩ := Kd.R_slice HO_8.out
      subst eo26
      go_wp2_with (first | ((with_reducible refine gate_callee (f := 14) rfl ?_); refine goesL_ (some 62) rfl rfl Try.func14 (by kernel_rfl) rfl #[.int .i64 (wrap64 (1 + (wrap64 (Int.tmod (IntKind.u64.wrap (a1)) 448))))] rfl (by (try simp only [List.map_toArray, List.map_cons, List.map_nil]); first | done | rfl | (simp only [List.length_drop, List.length_take]; rfl)) ?_; (with_reducible refine (darningref4_Need.calls (wrap64 (1 + (wrap64 (Int.tmod (IntKind.u64.wrap (a1)) 448)))) t307 _ A23.out).mono ?_); rintro e w' ⟨rfl, ⟨nd, rfl⟩⟩; refine ⟨_, rfl, ?_⟩))
      go_meet
      case rel => exact ⟨_, (false), (by first | rfl | (simp; done) | (simp [*]; done)), H', ⟨by have := HJ4.out; first | omega | exact Nat.le_refl _⟩, ⟨by (with_reducible repeat (first | apply Kd.R_alloc | apply Kd.R_drewN | apply Kd.R_drew)); exact HO_7.out⟩, ⟨by (with_reducible repeat (first | apply Kd.R_alloc | apply Kd.R_drewN | apply Kd.R_drew)); exact HO_8.out⟩, ⟨by repeat (first | (with_reducible first | exact HB.out | apply below_alloc | apply pw_below_drewN | apply below_drew1) | exact HB.out)⟩⟩
     ·
      rw [if_neg c25] at H
      have c25b0 : ((x8_4.length : Int) == (wrap64 (Int.tdiv (wrap64 (8 * (wrap64 (1 + (wrap64 (Int.tmod (IntKind.u64.wrap (a0)) 64)))))) t307))) = false := beq_eq_false_iff_ne.mpr c25
      have c25b1 : ((x8_4.length : Int) != (wrap64 (Int.tdiv (wrap64 (8 * (wrap64 (1 + (wrap64 (Int.tmod (IntKind.u64.wrap (a0)) 64)))))) t307))) = true := bne_iff_ne.mpr c25
      have H' := Aside0.mk H
      clear H
      obtain ⟨Ao27, co27, eo27⟩ := Kd.R_slice HO_8.out
      subst eo27
      go_wp2_with (first | ((with_reducible refine gate_callee (f := 14) rfl ?_); refine goesL_ (some 62) rfl rfl Try.func14 (by kernel_rfl) rfl #[.int .i64 (wrap64 (1 + (wrap64 (Int.tmod (IntKind.u64.wrap (a1)) 448))))] rfl (by (try simp only [List.map_toArray, List.map_cons, List.map_nil]); first | done | rfl | (simp only [List.length_drop, List.length_take]; rfl)) ?_; (with_reducible refine (darningref4_Need.calls (wrap64 (1 + (wrap64 (Int.tmod (IntKind.u64.wrap (a1)) 448)))) t307 _ A23.out).mono ?_); rintro e w' ⟨rfl, ⟨nd, rfl⟩⟩; refine ⟨_, rfl, ?_⟩) | (go_at_call 14; (with_reducible refine (darningref4_Need.calls (wrap64 (1 + (wrap64 (Int.tmod (IntKind.u64.wrap (a1)) 448)))) t307 _ A23.out).mono ?_); rintro e w' ⟨rfl, ⟨nd, rfl⟩⟩))
      go_meet
      case rel => exact ⟨_, (((x8_4.length : Int) != (wrap64 (Int.tdiv (wrap64 ((wrap64 (8 * (wrap64 (1 + (wrap64 (Int.tmod (IntKind.u64.wrap (a0)) 64)))))) + 1)) t307)))), (by first | rfl | (simp; done) | (simp [*]; done)), H', ⟨by have := HJ4.out; first | omega | exact Nat.le_refl _⟩, ⟨by (with_reducible repeat (first | apply Kd.R_alloc | apply Kd.R_drewN | apply Kd.R_drew)); exact HO_7.out⟩, ⟨by (with_reducible repeat (first | apply Kd.R_alloc | apply Kd.R_drewN | apply Kd.R_drew)); exact HO_8.out⟩, ⟨by repeat (first | (with_reducible first | exact HB.out | apply below_alloc | apply pw_below_drewN | apply below_drew1) | exact HB.out)⟩⟩
   case rest =>
    clear HC22
    try clear c1
    try clear c2
    try clear p2
    try clear c4
    try clear p6
    try clear c7
    try clear c7b0
    try clear c8
    try clear c9
    try clear c9b0
    try clear c9b1
    try clear c11
    try clear c13
    try clear c14
    try clear c17
    try clear c17b0
    try clear c17b1
    try clear c18
    try clear c18b0
    try clear c18b1
    try clear c18b2
    try clear c24
    try clear c24b0
    try clear c24b1
    try clear c25
    try clear c25b0
    try clear c25b1
    try clear p2
    try clear p6
    obtain ⟨kq, x75_21, rfl, HA, HJ21, HO_7, HO_8, HB⟩ := hcut
    cases kq with
    | zero => exact absurd HA.out (by simp [darninglaw19_ImageFills.j2])
    | succ kj21 =>
     have H := HA.out
     clear HA
     simp only [darninglaw19_ImageFills.j2] at H
     by_cases c28 : x75_21 = true
     ·
      subst c28
      have H1 : (some false) = some true := by rw [if_pos rfl] at H; exact H
      clear H
      have H := H1
      clear H1
      exact absurd H (by simp)
     ·
      replace c28 := Bool.eq_false_iff.mpr c28
      subst c28
      have H1 : (darninglaw19_ImageFills.l1 kj21 a2 x7_4 x8_4 (x8_4.length : Int) 0) = some true := by rw [if_neg (show ¬ (false = true) by decide)] at H; exact H
      clear H
      have H := H1
      clear H1
      have H' := Aside0.mk H
      clear H
      obtain ⟨Ao29, co29, eo29⟩ := Kd.R_slice HO_8.out
      subst eo29
      go_wp2
      go_loopg [7, 78] kj21 (fun kq v7 v78 w' => ∃ (x7_3 : List Int) (x78_3 : Int), v78 = .int .i64 x78_3 ∧ Aside0 (darninglaw19_ImageFills.l1 kq a2 x7_3 x8_4 (x8_4.length : Int) x78_3 = some true) ∧ Aside0 (kq ≤ kj21) ∧ Aside0 (Kd.R (Kd.int .u64) 39 w' w.heap.size (fun _ => True) v7 x7_3) ∧ Aside0 (Kd.R (Kd.int .i64) 3 w' w.heap.size (fun _ => True) (.slice Ao29 x8_4.length co29) x8_4) ∧ Aside0 (Below w.heap.size w w'))
      case atStart => exact ⟨(x7_4), (0), (by first | rfl | (simp; done) | (simp [*]; done)), H', ⟨Nat.le_refl _⟩, ⟨by (with_reducible repeat (first | apply Kd.R_alloc | apply Kd.R_drewN | apply Kd.R_drew)); exact HO_7.out⟩, ⟨by (with_reducible repeat (first | apply Kd.R_alloc | apply Kd.R_drewN | apply Kd.R_drew)); exact HO_8.out⟩, ⟨by repeat (first | (with_reducible first | exact HB.out | apply below_alloc | apply pw_below_drewN | apply below_drew1) | exact HB.out)⟩⟩
      case round =>
       clear H'
       try clear c1
       try clear c2
       try clear p2
       try clear c4
       try clear p6
       try clear c7
       try clear c7b0
       try clear c8
       try clear c9
       try clear c9b0
       try clear c9b1
       try clear c11
       try clear c13
       try clear c14
       try clear c17
       try clear c17b0
       try clear c17b1
       try clear c18
       try clear c18b0
       try clear c18b1
       try clear c18b2
       try clear c24
       try clear c24b0
       try clear c24b1
       try clear c25
       try clear c25b0
       try clear c25b1
       try clear c28
       try clear p2
       try clear p6
       obtain ⟨x7_3, x78_3, rfl, HA, HK3, HO_7, HO_8, HB⟩ := hrel
       cases gk with
       | zero => exact absurd HA.out (by simp [darninglaw19_ImageFills.l1])
       | succ k3 =>
        have H := HA.out
        clear HA
        simp only [darninglaw19_ImageFills.l1] at H
        by_cases c30 : x78_3 < (x8_4.length : Int)
        ·
         rw [if_pos c30] at H
         have c30b0 : decide (x78_3 < (x8_4.length : Int)) = true := decide_eq_true c30
         clear c30
         by_cases c31 : 0 ≤ x78_3
         ·
          rw [if_pos c31] at H
          have c31b0 : decide (0 ≤ x78_3) = true := decide_eq_true c31
          clear c31
          by_cases c32 : x78_3 < (x8_4.length : Int)
          ·
           rw [if_pos c32] at H
           have c32b0 : decide (x78_3 < (x8_4.length : Int)) = true := decide_eq_true c32
           clear c32
           have HC33 := Aside0.mk H
           clear H
           have p313 : 0 ≤ (x78_3 : Int) := of_decide_eq_true (by first | (with_reducible assumption) | assumption)
           have q313 : x78_3 < (x8_4.length : Int) := of_decide_eq_true (by first | (with_reducible assumption) | assumption)
           obtain ⟨ad313, e313, hx313_0⟩ := Kd.at_int (Kd.R_reads' HO_8.out).2.2 x78_3 p313 q313
           cases e313
           replace p313 := eq_true p313
           replace q313 := eq_true q313
           go_upto_if 85 with (fail)
           go_cut [13] (fun v13 wc => ∃ (kq : Nat) (x13_32 : Int), v13 = .int .i64 x13_32 ∧ Aside0 (darninglaw19_ImageFills.j4 kq a2 x7_3 x8_4 x13_32 (x8_4.length : Int) x78_3 = some true) ∧ Aside0 (kq ≤ k3) ∧ Aside0 (Kd.R (Kd.int .u64) 39 wc w.heap.size (fun _ => True) u7 x7_3) ∧ Aside0 (Kd.R (Kd.int .i64) 3 wc w.heap.size (fun _ => True) (.slice (some ad313) x8_4.length co29) x8_4) ∧ Aside0 (Below w.heap.size w wc))
           case first =>
            have H := HC33.out
            clear HC33
            by_cases c34 : a2 = true
            ·
             subst c34
             have H1 : (if 0 ≤ (wrap64 ((wrap64 ((x8_4.length : Int) - 1)) - x78_3)) then (if (wrap64 ((wrap64 ((x8_4.length : Int) - 1)) - x78_3)) < (x8_4.length : Int) then (darninglaw19_ImageFills.j4 k3 true x7_3 x8_4 (rd x8_4 (wrap64 ((wrap64 ((x8_4.length : Int) - 1)) - x78_3))) (x8_4.length : Int) x78_3) else (none)) else (none)) = some true := by rw [if_pos rfl] at H; exact H
             clear H
             have H := H1
             clear H1
             obtain ⟨ji35, hji35⟩ : ∃ j_ : Int, (wrap64 ((wrap64 ((x8_4.length : Int) - 1)) - x78_3)) = j_ := ⟨_, rfl⟩
             replace H : (if 0 ≤ (ji35) then (if (ji35) < (x8_4.length : Int) then (darninglaw19_ImageFills.j4 k3 true x7_3 x8_4 (rd x8_4 (ji35)) (x8_4.length : Int) x78_3) else (none)) else (none)) = some true := by first | (rw [hji35] at H; exact H) | (simp only [hji35] at H ⊢; exact H)
             have hji35w : (IntKind.i64.wrap ((wrap64 ((x8_4.length : Int) - 1)) - x78_3)) = ji35 := (i64_w _).trans hji35
             by_cases c36 : 0 ≤ (ji35)
             ·
              rw [if_pos c36] at H
              have c36b0 : decide (0 ≤ (ji35)) = true := decide_eq_true c36
              clear c36
              (first | rw [c36b0] | (simp only [i64_w, i32_w]; rw [c36b0]) | skip)
              by_cases c37 : (ji35) < (x8_4.length : Int)
              ·
               rw [if_pos c37] at H
               have c37b0 : decide ((ji35) < (x8_4.length : Int)) = true := decide_eq_true c37
               clear c37
               have H' := Aside0.mk H
               clear H
               have p314 : 0 ≤ ((ji35) : Int) := of_decide_eq_true (by first | (with_reducible assumption) | assumption)
               have q314 : (ji35) < (x8_4.length : Int) := of_decide_eq_true (by first | (with_reducible assumption) | assumption)
               obtain ⟨ad314, e314, hx314_0⟩ := Kd.at_int (Kd.R_reads' HO_8.out).2.2 (ji35) p314 q314
               obtain rfl : ad313 = ad314 := (by injection e314)
               replace p314 := eq_true p314
               replace q314 := eq_true q314
               go_wp2
               (try simp only [← hji35])
               go_meet
               case rel => exact ⟨_, (rd x8_4 (ji35)), (by first | rfl | (simp; done) | (simp only [← hji35] <;> (first | rfl | simp)) | (simp [*]; done)), (by first | exact H' | (simp only [hji35]; exact H')), ⟨by have := HJ4.out; have := HJ21.out; have := HK3.out; first | omega | exact Nat.le_refl _⟩, ⟨by (with_reducible repeat (first | apply Kd.R_alloc | apply Kd.R_drewN | apply Kd.R_drew)); exact HO_7.out⟩, ⟨by (with_reducible repeat (first | apply Kd.R_alloc | apply Kd.R_drewN | apply Kd.R_drew)); exact HO_8.out⟩, ⟨by repeat (first | (with_reducible first | exact HB.out | apply below_alloc | apply pw_below_drewN | apply below_drew1) | exact HB.out)⟩⟩
              ·
               rw [if_neg c37] at H
               exact absurd H (by simp)
             ·
              rw [if_neg c36] at H
              exact absurd H (by simp)
            ·
             replace c34 := Bool.eq_false_iff.mpr c34
             subst c34
             have H1 : (darninglaw19_ImageFills.j4 k3 false x7_3 x8_4 (rd x8_4 x78_3) (x8_4.length : Int) x78_3) = some true := by rw [if_neg (show ¬ (false = true) by decide)] at H; exact H
             clear H
             have H := H1
             clear H1
             have H' := Aside0.mk H
             clear H
             go_wp2
             go_meet
             case rel => exact ⟨_, (rd x8_4 x78_3), (by first | rfl | (simp; done) | (simp [*]; done)), (by first | exact H' | ((try rw [hji35]); exact H')), ⟨by have := HJ4.out; have := HJ21.out; have := HK3.out; first | omega | exact Nat.le_refl _⟩, ⟨by (with_reducible repeat (first | apply Kd.R_alloc | apply Kd.R_drewN | apply Kd.R_drew)); exact HO_7.out⟩, ⟨by (with_reducible repeat (first | apply Kd.R_alloc | apply Kd.R_drewN | apply Kd.R_drew)); exact HO_8.out⟩, ⟨by repeat (first | (with_reducible first | exact HB.out | apply below_alloc | apply pw_below_drewN | apply below_drew1) | exact HB.out)⟩⟩
           case rest =>
            clear HC33
            try clear c1
            try clear c2
            try clear p2
            try clear c3
            try clear p3
            try clear q3
            try clear hx3
            try clear c4
            try clear p6
            try clear c7
            try clear c7b0
            try clear c8
            try clear c9
            try clear c9b0
            try clear c9b1
            try clear c11
            try clear c13
            try clear c14
            try clear c17
            try clear c17b0
            try clear c17b1
            try clear c18
            try clear c18b0
            try clear c18b1
            try clear c18b2
            try clear c24
            try clear c24b0
            try clear c24b1
            try clear c25
            try clear c25b0
            try clear c25b1
            try clear c28
            try clear c30
            try clear c30b0
            try clear c31
            try clear c31b0
            try clear p31
            try clear q31
            try clear hx31
            try clear c32
            try clear c32b0
            try clear c34
            try clear c36
            try clear c36b0
            try clear c37
            try clear c37b0
            try clear hx313_0
            try clear hx314_0
            try clear p2
            try clear p313
            try clear p314
            try clear p6
            try clear q313
            try clear q314
            obtain ⟨kq, x13_32, rfl, HA, HJ32, HO_7, HO_8, HB⟩ := hcut
            cases kq with
            | zero => exact absurd HA.out (by simp [darninglaw19_ImageFills.j4])
            | succ kj32 =>
             have H := HA.out
             clear HA
             simp only [darninglaw19_ImageFills.j4] at H
             replace H := Option.bind_eq_some_iff.mp H
             obtain ⟨⟨t315, t316⟩, A380, H⟩ := H
             replace H : (if t316 = 0 then ((darningref4_Apply.f kj32 x7_3 t315).bind fun t319 => (darninglaw19_ImageFills.l1 kj32 a2 t319 x8_4 (x8_4.length : Int) (wrap64 (x78_3 + 1)))) else (some false)) = some true := H
             have A38 := Aside0.mk A380
             clear A380
             by_cases c39 : t316 = 0
             ·
              rw [if_pos c39] at H
              have c39b0 : (t316 == 0) = true := beq_iff_eq.mpr c39
              have c39b1 : (t316 != 0) = false := bne_eq_false_iff_eq.mpr c39
              clear c39
              replace H := Option.bind_eq_some_iff.mp H
              obtain ⟨t319, A400, H⟩ := H
              replace H : (darninglaw19_ImageFills.l1 kj32 a2 t319 x8_4 (x8_4.length : Int) (wrap64 (x78_3 + 1))) = some true := H
              have A40 := Aside0.mk A400
              clear A400
              have H' := Aside0.mk H
              clear H
              obtain ⟨Ao41, co41, eo41⟩ := Kd.R_slice HO_7.out
              subst eo41
              go_wp2_with (first | ((with_reducible refine gate_callee (f := 10) rfl ?_); refine goesL_ (some 97) rfl rfl Try.func10 (by kernel_rfl) rfl #[.slice Ao41 x7_3.length co41, .int .i64 x13_32] rfl (by (try simp only [List.map_toArray, List.map_cons, List.map_nil]); first | done | rfl | (simp only [List.length_drop, List.length_take]; rfl)) ?_; (with_reducible refine (image_Free.calls kj32 _ _ x7_3 x13_32 t315 t316 _ ?side1 ?side2 A38.out).mono ?_); (case side1 => repeat (first | exact (Kd.R_reads' HO_7.out).2.2 | (with_reducible refine Kd.C_alloc ?_ _) | (with_reducible refine Kd.C_drewN ?_ _) | (with_reducible refine Kd.C_drew ?_))); (case side2 => exact (Kd.R_reads' HO_7.out).2.1); rintro e w42 ⟨v317, rfl, ho0, hb⟩; refine ⟨_, rfl, ?_⟩; have n0_ := Aside0.mk (Kd.R_below (by (with_reducible repeat (first | apply Kd.R_alloc | apply Kd.R_drewN | apply Kd.R_drew)); exact HO_7.out) hb); have n1_ := Aside0.mk (Kd.R_below (by (with_reducible repeat (first | apply Kd.R_alloc | apply Kd.R_drewN | apply Kd.R_drew)); exact HO_8.out) hb); have n2_ := Aside0.mk (Kd.R_lower ho0 (below_size (by repeat (first | (with_reducible first | exact HB.out | apply below_alloc | apply pw_below_drewN | apply below_drew1) | exact HB.out)))); have n3_ := Aside0.mk (below_step (by repeat (first | (with_reducible first | exact HB.out | apply below_alloc | apply pw_below_drewN | apply below_drew1) | exact HB.out)) hb); clear HO_7; clear HO_8; clear HB; have HO_7 := n0_; have HO_8 := n1_; have HO318 := n2_; have HB := n3_; clear n0_ n1_ n2_ n3_; (try clear hb); (try clear hb2); (try clear hk); (try clear hi); (try clear ho0); obtain ⟨Ao43, co43, eo43⟩ := Kd.R_slice HO318.out; subst eo43) | ((with_reducible refine gate_callee (f := 9) rfl ?_); refine goesL_ (some 104) rfl rfl Try.func9 (by kernel_rfl) rfl #[.slice Ao41 x7_3.length co41, .slice Ao43 t315.length co43] rfl (by (try simp only [List.map_toArray, List.map_cons, List.map_nil]); first | done | rfl | (simp only [List.length_drop, List.length_take]; rfl)) ?_; (with_reducible refine (darningref4_Apply.calls kj32 _ _ x7_3 _ _ t315 t319 _ ?side1 ?side2 ?side3 ?side4 A40.out).mono ?_); (case side1 => repeat (first | exact (Kd.R_reads' HO_7.out).2.2 | (with_reducible refine Kd.C_alloc ?_ _) | (with_reducible refine Kd.C_drewN ?_ _) | (with_reducible refine Kd.C_drew ?_))); (case side2 => exact (Kd.R_reads' HO_7.out).2.1); (case side3 => repeat (first | exact (Kd.R_reads' HO318.out).2.2 | (with_reducible refine Kd.C_alloc ?_ _) | (with_reducible refine Kd.C_drewN ?_ _) | (with_reducible refine Kd.C_drew ?_))); (case side4 => exact (Kd.R_reads' HO318.out).2.1); rintro e w44 ⟨v320, rfl, ho0, hb⟩; refine ⟨_, rfl, ?_⟩; have n0_ := Aside0.mk (Kd.R_elder' (by (with_reducible repeat (first | apply Kd.R_alloc | apply Kd.R_drewN | apply Kd.R_drew)); exact HO_7.out) (Kd.R_base ho0) hb); have n1_ := Aside0.mk (Kd.R_below (by (with_reducible repeat (first | apply Kd.R_alloc | apply Kd.R_drewN | apply Kd.R_drew)); exact HO_8.out) hb); have n2_ := Aside0.mk (Kd.R_below (by (with_reducible repeat (first | apply Kd.R_alloc | apply Kd.R_drewN | apply Kd.R_drew)); exact HO318.out) hb); have n3_ := Aside0.mk (Kd.R_lower (Kd.R_new' ho0 (Kd.R_lt (by (with_reducible repeat (first | apply Kd.R_alloc | apply Kd.R_drewN | apply Kd.R_drew)); exact HO_7.out))) (below_size (by repeat (first | (with_reducible first | exact HB.out | apply below_alloc | apply pw_below_drewN | apply below_drew1) | exact HB.out)))); have n4_ := Aside0.mk (below_step (by repeat (first | (with_reducible first | exact HB.out | apply below_alloc | apply pw_below_drewN | apply below_drew1) | exact HB.out)) hb); clear HO_7; clear HO_8; clear HO318; clear HB; have HO_7 := n0_; have HO_8 := n1_; have HO318 := n2_; have HO321 := n3_; have HB := n4_; clear n0_ n1_ n2_ n3_ n4_; (try clear hb); (try clear hb2); (try clear hk); (try clear hi); (try clear ho0)))
              go_roundg kj32
              case measure => have := HJ4.out; have := HJ21.out; have := HK3.out; have := HJ32.out; omega
              case rel => exact ⟨(t319), (wrap64 (x78_3 + 1)), (by first | rfl | (simp; done) | (simp [*]; done)), (by first | exact H' | ((try rw [hji35]); exact H')), ⟨by have := HJ4.out; have := HJ21.out; have := HK3.out; have := HJ32.out; omega⟩, ⟨by (with_reducible repeat (first | apply Kd.R_alloc | apply Kd.R_drewN | apply Kd.R_drew)); exact Kd.R_mono HO321.out (fun _ hk => trivial)⟩, ⟨by (with_reducible repeat (first | apply Kd.R_alloc | apply Kd.R_drewN | apply Kd.R_drew)); exact HO_8.out⟩, ⟨by repeat (first | (with_reducible first | exact HB.out | apply below_alloc | apply pw_below_drewN | apply below_drew1) | exact HB.out)⟩⟩
             ·
              rw [if_neg c39] at H
              have c39b0 : (t316 == 0) = false := beq_eq_false_iff_ne.mpr c39
              have c39b1 : (t316 != 0) = true := bne_iff_ne.mpr c39
              exact absurd H (by simp)
          ·
           rw [if_neg c32] at H
           exact absurd H (by simp)
         ·
          rw [if_neg c31] at H
          exact absurd H (by simp)
        ·
         rw [if_neg c30] at H
         have c30b0 : decide (x78_3 < (x8_4.length : Int)) = false := decide_eq_false c30
         clear c30
         replace H := Option.bind_eq_some_iff.mp H
         obtain ⟨⟨t308, t309⟩, A450, H⟩ := H
         replace H : (if t309 = true then (if (t308.length : Int) = 1 then ((darninglaw19_awake.f k3).bind fun t312 => (some t312)) else (some false)) else (some false)) = some true := H
         have A45 := Aside0.mk A450
         clear A450
         by_cases c46 : t309 = true
         ·
          subst c46
          have H1 : (if (t308.length : Int) = 1 then ((darninglaw19_awake.f k3).bind fun t312 => (some t312)) else (some false)) = some true := by rw [if_pos rfl] at H; exact H
          clear H
          have H := H1
          clear H1
          by_cases c47 : (t308.length : Int) = 1
          ·
           rw [if_pos c47] at H
           have c47b0 : ((t308.length : Int) == 1) = true := beq_iff_eq.mpr c47
           have c47b1 : ((t308.length : Int) != 1) = false := bne_eq_false_iff_eq.mpr c47
           clear c47
           replace H := Option.bind_eq_some_iff.mp H
           obtain ⟨t312, A480, H⟩ := H
           replace H : (some t312) = some true := H
           have A48 := Aside0.mk A480
           clear A480
           obtain rfl : t312 = true := Option.some.inj H
           obtain ⟨Ao49, co49, eo49⟩ := Kd.R_slice HO_7.out
           subst eo49
           go_wp2_with (first | ((with_reducible refine gate_callee (f := 11) rfl ?_); refine goesL_ (some 108) rfl rfl Try.func11 (by kernel_rfl) rfl #[.slice Ao49 x7_3.length co49] rfl (by (try simp only [List.map_toArray, List.map_cons, List.map_nil]); first | done | rfl | (simp only [List.length_drop, List.length_take]; rfl)) ?_; (with_reducible refine (chain_Blocks.calls k3 _ _ x7_3 t308 true _ ?side1 ?side2 A45.out).mono ?_); (case side1 => repeat (first | exact (Kd.R_reads' HO_7.out).2.2 | (with_reducible refine Kd.C_alloc ?_ _) | (with_reducible refine Kd.C_drewN ?_ _) | (with_reducible refine Kd.C_drew ?_))); (case side2 => exact (Kd.R_reads' HO_7.out).2.1); rintro e w50 ⟨v310, rfl, ho0, hb⟩; refine ⟨_, rfl, ?_⟩; have n0_ := Aside0.mk (Kd.R_below (by (with_reducible repeat (first | apply Kd.R_alloc | apply Kd.R_drewN | apply Kd.R_drew)); exact HO_7.out) hb); have n1_ := Aside0.mk (Kd.R_below (by (with_reducible repeat (first | apply Kd.R_alloc | apply Kd.R_drewN | apply Kd.R_drew)); exact HO_8.out) hb); have n2_ := Aside0.mk (Kd.R_lower ho0 (below_size (by repeat (first | (with_reducible first | exact HB.out | apply below_alloc | apply pw_below_drewN | apply below_drew1) | exact HB.out)))); have n3_ := Aside0.mk (below_step (by repeat (first | (with_reducible first | exact HB.out | apply below_alloc | apply pw_below_drewN | apply below_drew1) | exact HB.out)) hb); clear HO_7; clear HO_8; clear HB; have HO_7 := n0_; have HO_8 := n1_; have HO311 := n2_; have HB := n3_; clear n0_ n1_ n2_ n3_; (try clear hb); (try clear hb2); (try clear hk); (try clear hi); (try clear ho0); obtain ⟨Ao51, co51, eo51⟩ := Kd.R_slice HO311.out; subst eo51) | (go_at_call 6; (with_reducible refine (darninglaw19_awake.calls k3   _ A48.out).mono ?_); rintro e w52 ⟨rfl, hb⟩; have n0_ := Aside0.mk (Kd.R_below (by (with_reducible repeat (first | apply Kd.R_alloc | apply Kd.R_drewN | apply Kd.R_drew)); exact HO_7.out) hb); have n1_ := Aside0.mk (Kd.R_below (by (with_reducible repeat (first | apply Kd.R_alloc | apply Kd.R_drewN | apply Kd.R_drew)); exact HO_8.out) hb); have n2_ := Aside0.mk (Kd.R_below (by (with_reducible repeat (first | apply Kd.R_alloc | apply Kd.R_drewN | apply Kd.R_drew)); exact HO311.out) hb); have n3_ := Aside0.mk (below_step (by repeat (first | (with_reducible first | exact HB.out | apply below_alloc | apply pw_below_drewN | apply below_drew1) | exact HB.out)) hb); clear HO_7; clear HO_8; clear HO311; clear HB; have HO_7 := n0_; have HO_8 := n1_; have HO311 := n2_; have HB := n3_; clear n0_ n1_ n2_ n3_; (try clear hb); (try clear hb2); (try clear hk); (try clear hi)))
           go_ret
           exact ⟨by first | rfl | (rw [HRA_.out]) | (simp only [HRA_.out]; done) | (simp only [← HRA_.out]; done) | (have HR_ := HRA_.out; simp_all) | (simp [errW_none, errW_some] <;> rfl) | (simp [*, errW_none, errW_some] <;> rfl), by repeat (first | (with_reducible first | exact HB.out | apply below_alloc | apply pw_below_drewN | apply below_drew1) | exact HB.out)⟩
          ·
           rw [if_neg c47] at H
           have c47b0 : ((t308.length : Int) == 1) = false := beq_eq_false_iff_ne.mpr c47
           have c47b1 : ((t308.length : Int) != 1) = true := bne_iff_ne.mpr c47
           exact absurd H (by simp)
         ·
          replace c46 := Bool.eq_false_iff.mpr c46
          subst c46
          have H1 : (some false) = some true := by rw [if_neg (show ¬ (false = true) by decide)] at H; exact H
          clear H
          have H := H1
          clear H1
          exact absurd H (by simp)

/-- THE ONE PURE STATEMENT of darninglaw19_ImageFills: yours. -/
def darninglaw19_ImageFills.Pure : Prop := ∀ (a0 : Int) (a1 : Int) (a2 : Bool), (Lit.int .i64 a0).wf = true → (Lit.int .i64 a1).wf = true → ∃ k, darninglaw19_ImageFills.f k a0 a1 a2 = some true
theorem darninglaw19_ImageFills.walk (P : darninglaw19_ImageFills.Pure) (a0 : Int) (a1 : Int) (a2 : Bool) (w : World) (w0 : (Lit.int .i64 a0).wf = true) (w1 : (Lit.int .i64 a1).wf = true) :
  Calls Try.prog 4 #[.int .i64 a0, .int .i64 a1, .bool a2] w fun e w' => e = .returned (.bool true) ∧ Below w.heap.size w w' := by
 obtain ⟨k, h⟩ := P a0 a1 a2 w0 w1
 refine (darninglaw19_ImageFills.calls k a0 a1 a2 w h).mono ?_
 rintro e w' ⟨rfl, hd⟩
 exact ⟨rfl, hd⟩

end Go.Proofs.Ytglekonhdjploab.XImageFills
