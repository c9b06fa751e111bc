-- Laid by this session's own printer (wip/xprint.py): each Go function that the law reaches as a plain Lean function, and that the call comes to it.
import Derived.Test.YtglekonhdjploaaXMergeAllx0
import Derived.Test.YtglekonhdjploaaXMergeAllx2
import Derived.Test.YtglekonhdjploaaXMergeAllx5
import Derived.Test.YtglekonhdjploaaXMergeAllx6
namespace Go.Proofs.Ytglekonhdjploaa.XMergeAll
open Go.RowKit Go.Proofs.YtglekonhdjploaaW.PrintWords Go.Proofs.YtglekonhdjploaaW.PrintLast Go.Proofs.YtglekonhdjploaaW.PrintMore
attribute [local go_sem] max2_int min2_int max_two min_two max_three min_three max_four min_four   -- for this text's walks alone
set_option linter.unusedVariables false
set_option linter.unusedSimpArgs false

attribute [local go_sem high] eqA35
/-! ### darninglaw17_MergeAll: function 4 -/
mutual
def darninglaw17_MergeAll.j0 : Nat → List (S35) → Int → Int → Bool → Option (Bool)
  | 0, _, _, _, _ => none
  | k + 1, x0, x1, x2, x25 => if x25 = true then ((darninglaw17_awake.f k).bind fun t189 => (some t189)) else (darninglaw17_MergeAll.l0 k x0 x1 x2 0)
def darninglaw17_MergeAll.l0 : Nat → List (S35) → Int → Int → Int → Option (Bool)
  | 0, _, _, _, _ => none
  | k + 1, x0, x1, x2, x27 => if x27 < 100 then (darninglaw17_MergeAll.l1 k x0 x1 x2 ([] : List Int) x27 x0 (x0.length : Int) 0) else (if (x0.length : Int) = 1 then (if 0 < (x0.length : Int) then (if (((rd_T35 x0 0).f0) == 0 && (((rd_T35 x0 0).f1) == x1 && (!((rd_T35 x0 0).f2)))) = true then ((darninglaw17_awake.f k).bind fun t191 => (some t191)) else (some false)) else (none)) else (some false))
def darninglaw17_MergeAll.l1 : Nat → List (S35) → Int → Int → List Int → Int → List (S35) → Int → Int → Option (Bool)
  | 0, _, _, _, _, _, _, _, _ => none
  | k + 1, x0, x1, x2, x7, x27, x29, x30, x31 => if x31 < x30 then (if 0 ≤ x31 then (if x31 < (x29.length : Int) then (if (rd_T35 x29 x31).f2 = true then (if x7.length < 17592186044416 then (darninglaw17_MergeAll.l1 k x0 x1 x2 (x7 ++ [x31]) x27 x29 x30 (wrap64 (x31 + 1))) else (none)) else (darninglaw17_MergeAll.l1 k x0 x1 x2 x7 x27 x29 x30 (wrap64 (x31 + 1)))) else (none)) else (none)) else (if (x7.length : Int) = 0 then (if (x0.length : Int) = 1 then (if 0 < (x0.length : Int) then (if (((rd_T35 x0 0).f0) == 0 && (((rd_T35 x0 0).f1) == x1 && (!((rd_T35 x0 0).f2)))) = true then ((darninglaw17_awake.f k).bind fun t198 => (some t198)) else (some false)) else (none)) else (some false)) else (if (IntKind.u64.wrap ((x7.length : Int))) = 0 then (none) else (if 0 ≤ (wrap64 (Int.tmod (IntKind.u64.wrap (x2)) (IntKind.u64.wrap ((x7.length : Int))))) then (if (wrap64 (Int.tmod (IntKind.u64.wrap (x2)) (IntKind.u64.wrap ((x7.length : Int))))) < (x7.length : Int) then ((merge_Blocks.f k x0 (rd x7 (wrap64 (Int.tmod (IntKind.u64.wrap (x2)) (IntKind.u64.wrap ((x7.length : Int))))))).bind fun bt200 => (if bt200.2 = true then ((darningref4_MayBlocks.f k bt200.1 x1).bind fun t204 => (if t204 = true then (if (bt200.1.length : Int) > (x0.length : Int) then (some false) else (darninglaw17_MergeAll.l0 k bt200.1 x1 (wrap64 ((wrap64 (x2 * 5)) + 1)) (wrap64 (x27 + 1)))) else (some false))) else (some false))) else (none)) else (none))))
end
def darninglaw17_MergeAll.f (k : Nat) (l0 : List (S35)) (a1 : Int) (a2 : Int) : Option (Bool) := if (l0.length : Int) > 100 then (darninglaw17_MergeAll.j0 k l0 a1 a2 true) else (if (l0.length : Int) = 0 then (darninglaw17_MergeAll.j0 k l0 a1 a2 true) else ((darningref4_MayBlocks.f k l0 a1).bind fun t188 => (darninglaw17_MergeAll.j0 k l0 a1 a2 (!t188))))
theorem darninglaw17_MergeAll.mono_l : ∀ k, (∀ y0 y1 y2 y3, LeO (darninglaw17_MergeAll.j0 k y0 y1 y2 y3) (darninglaw17_MergeAll.j0 (k + 1) y0 y1 y2 y3)) ∧ (∀ y0 y1 y2 y3, LeO (darninglaw17_MergeAll.l0 k y0 y1 y2 y3) (darninglaw17_MergeAll.l0 (k + 1) y0 y1 y2 y3)) ∧ (∀ y0 y1 y2 y3 y4 y5 y6 y7, LeO (darninglaw17_MergeAll.l1 k y0 y1 y2 y3 y4 y5 y6 y7) (darninglaw17_MergeAll.l1 (k + 1) y0 y1 y2 y3 y4 y5 y6 y7))
  | 0 => ⟨fun _ _ _ _ r h => by simp [darninglaw17_MergeAll.j0] at h, fun _ _ _ _ r h => by simp [darninglaw17_MergeAll.l0] at h, fun _ _ _ _ _ _ _ _ r h => by simp [darninglaw17_MergeAll.l1] at h⟩
  | k + 1 => by
    obtain ⟨ih0, ih1, ih2⟩ := darninglaw17_MergeAll.mono_l k
    refine ⟨?_, ?_, ?_⟩
    · intro y0 y1 y2 y3
      unfold darninglaw17_MergeAll.j0
      repeat' first
      | (with_reducible exact ih0 _ _ _ _)
      | (with_reducible exact ih1 _ _ _ _)
      | (with_reducible exact ih2 _ _ _ _ _ _ _ _)
      | (with_reducible exact darninglaw17_awake.mono _)
      | (with_reducible exact darningref4_MayBlocks.mono _ _ _)
      | (with_reducible exact merge_Blocks.mono _ _ _)
      | (with_reducible exact LeO.refl _)
      | (with_reducible exact LeO.none _)
      | (with_reducible refine LeO.ite ?_ ?_)
      | (with_reducible refine LeO.bind ?_ (fun _ => ?_))
      | exact ih0 _ _ _ _
      | exact ih1 _ _ _ _
      | exact ih2 _ _ _ _ _ _ _ _
      | exact darninglaw17_awake.mono _
      | exact darningref4_MayBlocks.mono _ _ _
      | exact merge_Blocks.mono _ _ _
      | exact LeO.none _
      | refine LeO.ite ?_ ?_
      | refine LeO.bind ?_ (fun _ => ?_)
    · intro y0 y1 y2 y3
      unfold darninglaw17_MergeAll.l0
      repeat' first
      | (with_reducible exact ih0 _ _ _ _)
      | (with_reducible exact ih1 _ _ _ _)
      | (with_reducible exact ih2 _ _ _ _ _ _ _ _)
      | (with_reducible exact darninglaw17_awake.mono _)
      | (with_reducible exact darningref4_MayBlocks.mono _ _ _)
      | (with_reducible exact merge_Blocks.mono _ _ _)
      | (with_reducible exact LeO.refl _)
      | (with_reducible exact LeO.none _)
      | (with_reducible refine LeO.ite ?_ ?_)
      | (with_reducible refine LeO.bind ?_ (fun _ => ?_))
      | exact ih0 _ _ _ _
      | exact ih1 _ _ _ _
      | exact ih2 _ _ _ _ _ _ _ _
      | exact darninglaw17_awake.mono _
      | exact darningref4_MayBlocks.mono _ _ _
      | exact merge_Blocks.mono _ _ _
      | exact LeO.none _
      | refine LeO.ite ?_ ?_
      | refine LeO.bind ?_ (fun _ => ?_)
    · intro y0 y1 y2 y3 y4 y5 y6 y7
      unfold darninglaw17_MergeAll.l1
      repeat' first
      | (with_reducible exact ih0 _ _ _ _)
      | (with_reducible exact ih1 _ _ _ _)
      | (with_reducible exact ih2 _ _ _ _ _ _ _ _)
      | (with_reducible exact darninglaw17_awake.mono _)
      | (with_reducible exact darningref4_MayBlocks.mono _ _ _)
      | (with_reducible exact merge_Blocks.mono _ _ _)
      | (with_reducible exact LeO.refl _)
      | (with_reducible exact LeO.none _)
      | (with_reducible refine LeO.ite ?_ ?_)
      | (with_reducible refine LeO.bind ?_ (fun _ => ?_))
      | exact ih0 _ _ _ _
      | exact ih1 _ _ _ _
      | exact ih2 _ _ _ _ _ _ _ _
      | exact darninglaw17_awake.mono _
      | exact darningref4_MayBlocks.mono _ _ _
      | exact merge_Blocks.mono _ _ _
      | exact LeO.none _
      | refine LeO.ite ?_ ?_
      | refine LeO.bind ?_ (fun _ => ?_)
theorem darninglaw17_MergeAll.mono : ∀ a0 a1 a2 k, LeO (darninglaw17_MergeAll.f k a0 a1 a2) (darninglaw17_MergeAll.f (k + 1) a0 a1 a2) := by
  intro a0 a1 a2 k
  obtain ⟨ih0, ih1, ih2⟩ := darninglaw17_MergeAll.mono_l k
  unfold darninglaw17_MergeAll.f
  repeat' first
      | (with_reducible exact ih0 _ _ _ _)
      | (with_reducible exact ih1 _ _ _ _)
      | (with_reducible exact ih2 _ _ _ _ _ _ _ _)
      | (with_reducible exact darninglaw17_awake.mono _)
      | (with_reducible exact darningref4_MayBlocks.mono _ _ _)
      | (with_reducible exact merge_Blocks.mono _ _ _)
      | (with_reducible exact LeO.refl _)
      | (with_reducible exact LeO.none _)
      | (with_reducible refine LeO.ite ?_ ?_)
      | (with_reducible refine LeO.bind ?_ (fun _ => ?_))
      | exact ih0 _ _ _ _
      | exact ih1 _ _ _ _
      | exact ih2 _ _ _ _ _ _ _ _
      | exact darninglaw17_awake.mono _
      | exact darningref4_MayBlocks.mono _ _ _
      | exact merge_Blocks.mono _ _ _
      | exact LeO.none _
      | refine LeO.ite ?_ ?_
      | refine LeO.bind ?_ (fun _ => ?_)
set_option maxHeartbeats 8000000 in
set_option maxRecDepth 100000 in
theorem darninglaw17_MergeAll.calls (k : Nat) (P0_ : Nat → Prop) (A0 : Option Addr) (c0 : Nat) (l0 : List (S35)) (a1 : Int) (a2 : Int) (r : Bool) (w : World) (hs0 : Kd.V k35 35 w w.heap.size (fun k_ => P0_ k_) (.slice A0 l0.length c0) l0) (h : darninglaw17_MergeAll.f k l0 a1 a2 = some r) :
    Calls Try.prog 4 #[.slice A0 l0.length c0, .int .i64 a1, .int .i64 a2] w fun e w' => e = .returned (.bool r) ∧ Below w.heap.size w w' := by
  have hu35 := Try.underlying35
  have HO0 := Aside0.mk (show Kd.V k35 35 w w.heap.size (fun k_ => (P0_ k_ ∨ w.heap.size ≤ k_)) (.slice A0 l0.length c0) l0 from Kd.V_mono hs0 (fun k_ hk => .inl hk))
  have HB := Aside0.mk (Below.refl w.heap.size w)
  have H : (if (l0.length : Int) > 100 then (darninglaw17_MergeAll.j0 k l0 a1 a2 true) else (if (l0.length : Int) = 0 then (darninglaw17_MergeAll.j0 k l0 a1 a2 true) else ((darningref4_MayBlocks.f k l0 a1).bind fun t188 => (darninglaw17_MergeAll.j0 k l0 a1 a2 (!t188))))) = some r := h
  clear h
  have HC4 := Aside0.mk H
  clear H
  go_enter Try.func4, Try.ntmps4
  go_upto_region 1 with (fail)
  go_cut [25] (fun v25 wc => ∃ (kq : Nat) (x25_3 : Bool), v25 = .bool x25_3 ∧ Aside0 (darninglaw17_MergeAll.j0 kq l0 a1 a2 x25_3 = some r) ∧ Aside0 (kq ≤ k) ∧ Aside0 (Kd.V k35 35 wc w.heap.size (fun k_ => (P0_ k_ ∨ w.heap.size ≤ k_)) (.slice A0 l0.length c0) l0) ∧ Aside0 (Below w.heap.size w wc))
  case first =>
    have H := HC4.out
    clear HC4
    by_cases c5 : (l0.length : Int) > 100
    · rw [if_pos c5] at H
      have c5b0 : decide (100 < (l0.length : Int)) = true := decide_eq_true c5
      have c5b1 : decide (100 < l0.length) = true := decide_eq_true (by omega)
      clear c5
      (first | rw [c5b0] | (simp only [i64_w, i32_w]; rw [c5b0]) | skip)
      have H' := Aside0.mk H
      clear H
      go_wp2
      go_meet
      case rel => exact ⟨_, (true), (by first | rfl | (simp; done) | (simp [*]; done)), H', ⟨by first | omega | exact Nat.le_refl _⟩, ⟨by (with_reducible repeat (first | apply Kd.V_alloc | apply Kd.V_drewN | apply Kd.V_drew)); exact HO0.out⟩, ⟨by repeat (first | (with_reducible first | exact HB.out | apply below_alloc | apply pw_below_drewN | apply below_drew1) | exact HB.out)⟩⟩
    · rw [if_neg c5] at H
      have c5b0 : decide (100 < (l0.length : Int)) = false := decide_eq_false c5
      have c5b1 : decide (100 < l0.length) = false := decide_eq_false (by omega)
      clear c5
      (first | rw [c5b0] | (simp only [i64_w, i32_w]; rw [c5b0]) | skip)
      by_cases c6 : (l0.length : Int) = 0
      · rw [if_pos c6] at H
        have c6b0 : ((l0.length : Int) == 0) = true := beq_iff_eq.mpr c6
        have c6b1 : ((l0.length : Int) != 0) = false := bne_eq_false_iff_eq.mpr c6
        clear c6
        have H' := Aside0.mk H
        clear H
        go_wp2
        go_meet
        case rel => exact ⟨_, (true), (by first | rfl | (simp; done) | (simp [*]; done)), H', ⟨by first | omega | exact Nat.le_refl _⟩, ⟨by (with_reducible repeat (first | apply Kd.V_alloc | apply Kd.V_drewN | apply Kd.V_drew)); exact HO0.out⟩, ⟨by repeat (first | (with_reducible first | exact HB.out | apply below_alloc | apply pw_below_drewN | apply below_drew1) | exact HB.out)⟩⟩
      · rw [if_neg c6] at H
        have c6b0 : ((l0.length : Int) == 0) = false := beq_eq_false_iff_ne.mpr c6
        have c6b1 : ((l0.length : Int) != 0) = true := bne_iff_ne.mpr c6
        have c6b2 : ¬ (l0 = []) := fun h_ => c6 (by rw [h_]; rfl)
        replace H := Option.bind_eq_some_iff.mp H
        obtain ⟨t188, A70, H⟩ := H
        replace H : (darninglaw17_MergeAll.j0 k l0 a1 a2 (!t188)) = some r := H
        have A7 := Aside0.mk A70
        clear A70
        have H' := Aside0.mk H
        clear H
        go_wp2_with (first | (go_at_call 21; (with_reducible refine (darningref4_MayBlocks.calls k _ _ l0 a1 t188 _ ?side1 ?side2 A7.out).mono ?_); (case side1 => repeat (first | exact (Kd.V_reads' HO0.out).2.2 | (with_reducible refine Kd.C_alloc ?_ _) | (with_reducible refine Kd.C_drewN ?_ _) | (with_reducible refine Kd.C_drew ?_))); (case side2 => exact (Kd.V_reads' HO0.out).2.1); rintro e w8 ⟨rfl, hb⟩; have n0_ := Aside0.mk (Kd.V_below (by (with_reducible repeat (first | apply Kd.V_alloc | apply Kd.V_drewN | apply Kd.V_drew)); exact HO0.out) hb); have n1_ := Aside0.mk (below_step (by repeat (first | (with_reducible first | exact HB.out | apply below_alloc | apply pw_below_drewN | apply below_drew1) | exact HB.out)) hb); clear HO0; clear HB; have HO0 := n0_; have HB := n1_; clear n0_ n1_; (try clear hb); (try clear hb2); (try clear hk); (try clear hi)))
        go_meet
        case rel => exact ⟨_, (!t188), (by first | rfl | (simp; done) | (simp [*]; done)), H', ⟨by first | omega | exact Nat.le_refl _⟩, ⟨by (with_reducible repeat (first | apply Kd.V_alloc | apply Kd.V_drewN | apply Kd.V_drew)); exact HO0.out⟩, ⟨by repeat (first | (with_reducible first | exact HB.out | apply below_alloc | apply pw_below_drewN | apply below_drew1) | exact HB.out)⟩⟩
  case rest =>
    clear HC4
    try clear p2
    try clear c4
    try clear c5
    try clear c5b0
    try clear c5b1
    try clear c6
    try clear c6b0
    try clear c6b1
    try clear c6b2
    obtain ⟨kq, x25_3, rfl, HA, HJ3, HO_0, HB⟩ := hcut
    cases kq with
    | zero => exact absurd HA.out (by simp [darninglaw17_MergeAll.j0])
    | succ kj3 =>
      have H := HA.out
      clear HA
      simp only [darninglaw17_MergeAll.j0] at H
      by_cases c9 : x25_3 = true
      · subst c9
        have H1 : ((darninglaw17_awake.f kj3).bind fun t189 => (some t189)) = some r := by rw [if_pos rfl] at H; exact H
        clear H
        have H := H1
        clear H1
        replace H := Option.bind_eq_some_iff.mp H
        obtain ⟨t189, A100, H⟩ := H
        replace H : (some t189) = some r := H
        have A10 := Aside0.mk A100
        clear A100
        obtain rfl := Option.some.inj H
        go_wp2_with (first | ((with_reducible refine gate_callee (f := 15) rfl ?_); refine goesL_ (some 26) rfl rfl Try.func15 (by kernel_rfl) rfl #[] rfl (by (try simp only [List.map_toArray, List.map_cons, List.map_nil]); first | done | rfl | (simp only [List.length_drop, List.length_take]; rfl)) ?_; (with_reducible refine (darninglaw17_awake.calls kj3  t189 _ A10.out).mono ?_); rintro e w11 ⟨rfl, hb⟩; refine ⟨_, rfl, ?_⟩; have n0_ := Aside0.mk (Kd.V_below (by (with_reducible repeat (first | apply Kd.V_alloc | apply Kd.V_drewN | apply Kd.V_drew)); exact HO_0.out) hb); have n1_ := Aside0.mk (below_step (by repeat (first | (with_reducible first | exact HB.out | apply below_alloc | apply pw_below_drewN | apply below_drew1) | exact HB.out)) hb); clear HO_0; clear HB; have HO_0 := n0_; have HB := n1_; clear n0_ n1_; (try clear hb); (try clear hb2); (try clear hk); (try clear hi)))
        go_ret
        exact ⟨by first | rfl | (simp [errW_none, errW_some] <;> rfl) | (simp [*, errW_none, errW_some] <;> rfl), by repeat (first | (with_reducible first | exact HB.out | apply below_alloc | apply pw_below_drewN | apply below_drew1) | exact HB.out)⟩
      · replace c9 := Bool.eq_false_iff.mpr c9
        subst c9
        have H1 : (darninglaw17_MergeAll.l0 kj3 l0 a1 a2 0) = some r := by rw [if_neg (show ¬ (false = true) by decide)] at H; exact H
        clear H
        have H := H1
        clear H1
        have H' := Aside0.mk H
        clear H
        go_wp2
        go_loopg [0, 2, 27] kj3 (fun kq v0 v2 v27 w' => ∃ (x0_2 : List (S35)) (x2_2 : Int) (x27_2 : Int), v2 = .int .i64 x2_2 ∧ v27 = .int .i64 x27_2 ∧ Aside0 (darninglaw17_MergeAll.l0 kq x0_2 a1 x2_2 x27_2 = some r) ∧ Aside0 (kq ≤ kj3) ∧ Aside0 (Kd.V k35 35 w' w.heap.size (fun k_ => (P0_ k_ ∨ w.heap.size ≤ k_)) v0 x0_2) ∧ Aside0 (Below w.heap.size w w'))
        case atStart => exact ⟨(l0), (a2), (0), (by first | rfl | (simp; done) | (simp [*]; done)), (by first | rfl | (simp; done) | (simp [*]; done)), H', ⟨Nat.le_refl _⟩, ⟨by (with_reducible repeat (first | apply Kd.V_alloc | apply Kd.V_drewN | apply Kd.V_drew)); exact HO_0.out⟩, ⟨by repeat (first | (with_reducible first | exact HB.out | apply below_alloc | apply pw_below_drewN | apply below_drew1) | exact HB.out)⟩⟩
        case round =>
          clear H'
          try clear c1
          try clear p2
          try clear c4
          try clear c5
          try clear c5b0
          try clear c5b1
          try clear c6
          try clear c6b0
          try clear c6b1
          try clear c6b2
          try clear c9
          try clear p2
          obtain ⟨x0_2, x2_2, x27_2, rfl, rfl, HA, HK2, HO_0, HB⟩ := hrel
          cases gk with
          | zero => exact absurd HA.out (by simp [darninglaw17_MergeAll.l0])
          | succ k2 =>
            have H := HA.out
            clear HA
            simp only [darninglaw17_MergeAll.l0] at H
            by_cases c12 : x27_2 < 100
            · rw [if_pos c12] at H
              have c12b0 : decide (x27_2 < 100) = true := decide_eq_true c12
              clear c12
              have H' := Aside0.mk H
              clear H
              obtain ⟨Ao13, co13, eo13⟩ := Kd.V_slice HO_0.out
              subst eo13
              go_wp2
              go_loopg [7, 31] k2 (fun kq v7 v31 w' => ∃ (x7_3 : List Int) (x31_3 : Int), v31 = .int .i64 x31_3 ∧ Aside0 (darninglaw17_MergeAll.l1 kq x0_2 a1 x2_2 x7_3 x27_2 x0_2 (x0_2.length : Int) x31_3 = some r) ∧ Aside0 (kq ≤ k2) ∧ Aside0 (Kd.V k35 35 w' w.heap.size (fun k_ => (P0_ k_ ∨ w.heap.size ≤ k_) ∧ some k_ ≠ (v7 : Value).ownBlock) (.slice Ao13 x0_2.length co13) x0_2) ∧ Aside0 (Kd.R (Kd.int .i64) 3 w' w.heap.size (fun k_ => (w.heap.size ≤ k_)) v7 x7_3) ∧ Aside0 (Kd.V k35 35 w' w.heap.size (fun k_ => (P0_ k_ ∨ w.heap.size ≤ k_) ∧ some k_ ≠ (v7 : Value).ownBlock) (.slice Ao13 x0_2.length co13) x0_2) ∧ Aside0 (Below w.heap.size w w'))
              case atStart => exact ⟨(([] : List Int)), (0), (by first | rfl | (simp; done) | (simp [*]; done)), H', ⟨Nat.le_refl _⟩, ⟨by (with_reducible repeat (first | apply Kd.V_alloc | apply Kd.V_drewN | apply Kd.V_drew)); exact Kd.V_mono HO_0.out (fun _ hk => ⟨hk, (by simp [Value.ownBlock])⟩)⟩, ⟨by first | exact Kd.R_nil _ _ _ _ _ | exact Kd.N_nil _ _ _ _ _ | exact Kd.V_nil _ _ _ _ _ | exact Kd.Q_nil _ _ _ _ _ | exact Kd.S_nil _ _ _ _ _⟩, ⟨by (with_reducible repeat (first | apply Kd.V_alloc | apply Kd.V_drewN | apply Kd.V_drew)); exact Kd.V_mono HO_0.out (fun _ hk => ⟨hk, (by simp [Value.ownBlock])⟩)⟩, ⟨by repeat (first | (with_reducible first | exact HB.out | apply below_alloc | apply pw_below_drewN | apply below_drew1) | exact HB.out)⟩⟩
              case round =>
                clear H'
                try clear c1
                try clear p2
                try clear c4
                try clear c5
                try clear c5b0
                try clear c5b1
                try clear c6
                try clear c6b0
                try clear c6b1
                try clear c6b2
                try clear c9
                try clear c12
                try clear c12b0
                try clear p2
                obtain ⟨x7_3, x31_3, rfl, HA, HK3, HO_0, HO_7, HO_29, HB⟩ := hrel
                cases gk with
                | zero => exact absurd HA.out (by simp [darninglaw17_MergeAll.l1])
                | succ k3 =>
                  have H := HA.out
                  clear HA
                  simp only [darninglaw17_MergeAll.l1] at H
                  by_cases c14 : x31_3 < (x0_2.length : Int)
                  · rw [if_pos c14] at H
                    have c14b0 : decide (x31_3 < (x0_2.length : Int)) = true := decide_eq_true c14
                    clear c14
                    by_cases c15 : 0 ≤ x31_3
                    · rw [if_pos c15] at H
                      have c15b0 : decide (0 ≤ x31_3) = true := decide_eq_true c15
                      clear c15
                      by_cases c16 : x31_3 < (x0_2.length : Int)
                      · rw [if_pos c16] at H
                        have c16b0 : decide (x31_3 < (x0_2.length : Int)) = true := decide_eq_true c16
                        clear c16
                        obtain ⟨bq17, hbq17⟩ : ∃ b_ : Bool, b_ = ((rd_T35 x0_2 x31_3).f2) := ⟨_, rfl⟩
                        replace H : (if bq17 = true then (if x7_3.length < 17592186044416 then (darninglaw17_MergeAll.l1 k3 x0_2 a1 x2_2 (x7_3 ++ [x31_3]) x27_2 x0_2 (x0_2.length : Int) (wrap64 (x31_3 + 1))) else (none)) else (darninglaw17_MergeAll.l1 k3 x0_2 a1 x2_2 x7_3 x27_2 x0_2 (x0_2.length : Int) (wrap64 (x31_3 + 1)))) = some r := by rw [← hbq17] at H; exact H
                        have Nbq17 := Aside0.mk hbq17
                        clear hbq17
                        (try rw [← Nbq17.out])
                        by_cases c18 : bq17 = true
                        · subst c18
                          have H1 : (if x7_3.length < 17592186044416 then (darninglaw17_MergeAll.l1 k3 x0_2 a1 x2_2 (x7_3 ++ [x31_3]) x27_2 x0_2 (x0_2.length : Int) (wrap64 (x31_3 + 1))) else (none)) = some r := by rw [if_pos rfl] at H; exact H
                          clear H
                          have H := H1
                          clear H1
                          by_cases c19 : x7_3.length < 17592186044416
                          · rw [if_pos c19] at H
                            have LMc19 := Aside0.mk c19
                            clear c19
                            obtain ⟨y194, hy194⟩ : ∃ y_ : List Int, y_ = (x7_3 ++ [x31_3]) := ⟨_, rfl⟩
                            replace H : (darninglaw17_MergeAll.l1 k3 x0_2 a1 x2_2 y194 x27_2 x0_2 (x0_2.length : Int) (wrap64 (x31_3 + 1))) = some r := by first | (rw [hy194]; with_reducible exact H) | (have H2_ := (Option.bind_some _ _).symm.trans H; rw [hy194]; with_reducible exact H2_) | (have H2_ := (Option.bind_some _ _).symm.trans H; with_reducible exact H2_) | with_reducible exact H | (rw [hy194]; exact H) | exact H
                            have Ny194 := Aside0.mk hy194
                            clear hy194
                            have H' := Aside0.mk H
                            clear H
                            have p192 : 0 ≤ (x31_3 : Int) := of_decide_eq_true (by first | (with_reducible assumption) | assumption)
                            have q192 : x31_3 < (x0_2.length : Int) := of_decide_eq_true (by first | (with_reducible assumption) | assumption)
                            obtain ⟨ad192, e192, hx192_0, hx192_1, hx192_2⟩ := at_T35 (Kd.V_reads' HO_29.out).2.2 x31_3 p192 q192
                            (try rw [← Nbq17.out] at hx192_2)
                            cases e192
                            replace p192 := eq_true p192
                            replace q192 := eq_true q192
                            go_wp2_with (first | ((with_reducible refine gate_dst (N := 9) rfl ?_); (try (refine gate_guard (by rfl) ?_; dsimp only)); refine box_event ?hg (N := 9) ?hd (cs := #[.int .i64 0, .int .i64 0, .bool false]) (t := 35) ?hr ?_; (case hd => rfl); (case hg => rfl); (case hr => first | (go_simp; done) | (go_simp; rfl)); intro gb193 hg w20 hbox hb; have n0_ := Aside0.mk (Kd.V_below (Kd.V_elderB (by (with_reducible repeat (first | apply Kd.V_alloc | apply Kd.V_drewN | apply Kd.V_drew)); exact HO_0.out) gb193 (Nat.le_of_eq hg.symm)) hb); have n1_ := Aside0.mk (Kd.R_below (by (with_reducible repeat (first | apply Kd.R_alloc | apply Kd.R_drewN | apply Kd.R_drew)); exact HO_7.out) hb); have n2_ := Aside0.mk (Kd.V_below (Kd.V_elderB (by (with_reducible repeat (first | apply Kd.V_alloc | apply Kd.V_drewN | apply Kd.V_drew)); exact HO_29.out) gb193 (Nat.le_of_eq hg.symm)) hb); have n3_ := Aside0.mk (below_step (by repeat (first | (with_reducible first | exact HB.out | apply below_alloc | apply pw_below_drewN | apply below_drew1) | exact HB.out)) hb); have n4_ := Aside0.mk (hbox); have n5_ := Aside0.mk ((by rw [hg]; exact (below_size (by repeat (first | (with_reducible first | exact HB.out | apply below_alloc | apply pw_below_drewN | apply below_drew1) | exact HB.out))) : w.heap.size ≤ gb193)); have n6_ := Aside0.mk ((by rw [hg]; exact (below_size (by repeat (first | (with_reducible first | exact HB.out | apply below_alloc | apply pw_below_drewN | apply below_drew1) | exact HB.out))) : w.heap.size ≤ gb193)); clear HO_0; clear HO_7; clear HO_29; clear HB; have HO_0 := n0_; have HO_7 := n1_; have HO_29 := n2_; have HB := n3_; have BK193 := n4_; have GW193 := n5_; have GE193 := n6_; clear n0_ n1_ n2_ n3_ n4_ n5_ n6_; clear hb hbox hg; have hcz21_0 : w20.cell? ⟨gb193, 0, none⟩ = some (.int .i64 0) := (blk_cell BK193.out 0).trans rfl; have hcz21_1 : w20.cell? ⟨gb193, 1, none⟩ = some (.int .i64 0) := (blk_cell BK193.out 1).trans rfl; have hcz21_2 : w20.cell? ⟨gb193, 2, none⟩ = some (.bool false) := (blk_cell BK193.out 2).trans rfl; have hfz21_0 := blk_frozen BK193.out 0; have hfz21_1 := blk_frozen BK193.out 1; have hfz21_2 := blk_frozen BK193.out 2) | ((with_reducible refine gate_builtin (b := .append) (xs := #[.tmp 38, .tmp 40]) rfl ?_); (try (refine gate_guard (by rfl) ?_; dsimp only)); at_builtin; refine Kd.R_append (Kd.int .i64) (w0 := w) w.heap.size rfl (.tmp 38) (.tmp 40) 38 3 (.int .i64 0) 8 rfl Try.underlying38 info3 rfl (by decide) (by omega) u7 x7_3 x31_3 [.int .i64 x31_3] (fun k_ => (w.heap.size ≤ k_)) (fun _ => False) rfl (by first | (go_simp; done) | (go_simp; rfl)) ?aP (fun _ hk => hk.elim) ?aF ?aO ?aB ?aS ?aL ?_; (case aP => exact rfl); (case aB => exact (by repeat (first | (with_reducible first | exact HB.out | apply below_alloc | apply pw_below_drewN | apply below_drew1 | refine below_set ?_ GE193.out) | exact HB.out))); (case aF => exact (fun k_ hk => (Nat.le_trans (below_size (by repeat (first | (with_reducible first | exact HB.out | apply below_alloc | apply pw_below_drewN | apply below_drew1 | refine below_set ?_ GE193.out) | exact HB.out))) hk))); (case aO => exact (by (with_reducible repeat (first | apply Kd.R_alloc | apply Kd.R_drewN | apply Kd.R_drew)); exact Kd.R_mono (Kd.R_far (p := ⟨gb193, 2, none⟩) (Kd.R_far (p := ⟨gb193, 1, none⟩) (Kd.R_far (p := ⟨gb193, 0, none⟩) (Kd.R_types HO_7.out BK193.out (by decide)) (fun _ hk => hk.2) (.int .i64 ((rd_T35 x0_2 x31_3).f0))) (fun _ hk => hk.2) (.int .i64 ((rd_T35 x0_2 x31_3).f1))) (fun _ hk => hk.2) (.bool true)) (fun _ hk => hk.1))); (case aS => exact (below_size (by repeat (first | (with_reducible first | exact HB.out | apply below_alloc | apply pw_below_drewN | apply below_drew1 | refine below_set ?_ GE193.out) | exact HB.out)))); (case aL => have := LMc19.out; omega); intro v195 w22 ho hb hg hat; rw [← Ny194.out] at ho; have n0_ := Aside0.mk (Kd.V_afterv (ok := (fun k_ => (P0_ k_ ∨ w.heap.size ≤ k_) ∧ k_ ≠ gb193)) (by (with_reducible repeat (first | apply Kd.V_alloc | apply Kd.V_drewN | apply Kd.V_drew)); exact Kd.V_mono (Kd.V_far (p := ⟨gb193, 2, none⟩) (Kd.V_far (p := ⟨gb193, 1, none⟩) (Kd.V_far (p := ⟨gb193, 0, none⟩) (Kd.V_mono HO_0.out (fun k_ hk => (⟨hk, hk.2⟩ : _ ∧ k_ ≠ gb193))) (fun _ hk => hk.2) (.int .i64 ((rd_T35 x0_2 x31_3).f0))) (fun _ hk => hk.2) (.int .i64 ((rd_T35 x0_2 x31_3).f1))) (fun _ hk => hk.2) (.bool true)) (fun _ hk => ⟨⟨hk.1.1.1, hk.1.2⟩, hk.1.1.2⟩)) hg hat); have n1_ := Aside0.mk (Kd.V_afterv (ok := (fun k_ => (P0_ k_ ∨ w.heap.size ≤ k_) ∧ k_ ≠ gb193)) (by (with_reducible repeat (first | apply Kd.V_alloc | apply Kd.V_drewN | apply Kd.V_drew)); exact Kd.V_mono (Kd.V_far (p := ⟨gb193, 2, none⟩) (Kd.V_far (p := ⟨gb193, 1, none⟩) (Kd.V_far (p := ⟨gb193, 0, none⟩) (Kd.V_mono HO_29.out (fun k_ hk => (⟨hk, hk.2⟩ : _ ∧ k_ ≠ gb193))) (fun _ hk => hk.2) (.int .i64 ((rd_T35 x0_2 x31_3).f0))) (fun _ hk => hk.2) (.int .i64 ((rd_T35 x0_2 x31_3).f1))) (fun _ hk => hk.2) (.bool true)) (fun _ hk => ⟨⟨hk.1.1.1, hk.1.2⟩, hk.1.1.2⟩)) hg hat); have n2_ := Aside0.mk (blk_grown (g := gb193) (o := .cells #[.int .i64 ((rd_T35 x0_2 x31_3).f0), .int .i64 ((rd_T35 x0_2 x31_3).f1), .bool true] 35 (0, 0)) (by (with_reducible repeat (first | refine blk_drewN ?_ _ | refine blk_drew ?_ | refine blk_alloc ?_ _)); refine blk_put (cs := #[.int .i64 ((rd_T35 x0_2 x31_3).f0), .int .i64 ((rd_T35 x0_2 x31_3).f1), .bool false]) ?_ 2 _ rfl; (with_reducible repeat (first | refine blk_drewN ?_ _ | refine blk_drew ?_ | refine blk_alloc ?_ _)); refine blk_put (cs := #[.int .i64 ((rd_T35 x0_2 x31_3).f0), .int .i64 0, .bool false]) ?_ 1 _ rfl; (with_reducible repeat (first | refine blk_drewN ?_ _ | refine blk_drew ?_ | refine blk_alloc ?_ _)); refine blk_put (cs := #[.int .i64 0, .int .i64 0, .bool false]) ?_ 0 _ rfl; (with_reducible repeat (first | refine blk_drewN ?_ _ | refine blk_drew ?_ | refine blk_alloc ?_ _)); exact BK193.out) hg (Kd.R_ne HO_7.out BK193.out (by decide))); have n3_ := Aside0.mk (hb); have n4_ := Aside0.mk (ho); clear HO_0; clear HO_29; clear BK193; clear HB; clear HO_7; have HO_0 := n0_; have HO_29 := n1_; have BK193 := n2_; have HB := n3_; have HO196 := n4_; clear n0_ n1_ n2_ n3_ n4_; clear ho hb hg hat))
                            go_roundg k3
                            case measure => have := HJ3.out; have := HK2.out; have := HK3.out; omega
                            case rel => exact ⟨(y194), (wrap64 (x31_3 + 1)), (by first | rfl | (simp; done) | (simp [*]; done)), H', ⟨by have := HJ3.out; have := HK2.out; have := HK3.out; omega⟩, ⟨by (with_reducible repeat (first | apply Kd.V_alloc | apply Kd.V_drewN | apply Kd.V_drew)); exact Kd.V_mono HO_0.out (fun _ hk => ⟨hk.1.1, hk.2⟩)⟩, ⟨by (with_reducible repeat (first | apply Kd.R_alloc | apply Kd.R_drewN | apply Kd.R_drew)); exact HO196.out⟩, ⟨by (with_reducible repeat (first | apply Kd.V_alloc | apply Kd.V_drewN | apply Kd.V_drew)); exact Kd.V_mono HO_29.out (fun _ hk => ⟨hk.1.1, hk.2⟩)⟩, ⟨by repeat (first | (with_reducible first | exact HB.out | apply below_alloc | apply pw_below_drewN | apply below_drew1 | refine below_set ?_ GE193.out) | exact HB.out)⟩⟩
                          · rw [if_neg c19] at H
                            exact absurd H (by simp)
                        · replace c18 := Bool.eq_false_iff.mpr c18
                          subst c18
                          have H1 : (darninglaw17_MergeAll.l1 k3 x0_2 a1 x2_2 x7_3 x27_2 x0_2 (x0_2.length : Int) (wrap64 (x31_3 + 1))) = some r := by rw [if_neg (show ¬ (false = true) by decide)] at H; exact H
                          clear H
                          have H := H1
                          clear H1
                          have H' := Aside0.mk H
                          clear H
                          have p192 : 0 ≤ (x31_3 : Int) := of_decide_eq_true (by first | (with_reducible assumption) | assumption)
                          have q192 : x31_3 < (x0_2.length : Int) := of_decide_eq_true (by first | (with_reducible assumption) | assumption)
                          obtain ⟨ad192, e192, hx192_0, hx192_1, hx192_2⟩ := at_T35 (Kd.V_reads' HO_29.out).2.2 x31_3 p192 q192
                          (try rw [← Nbq17.out] at hx192_2)
                          cases e192
                          replace p192 := eq_true p192
                          replace q192 := eq_true q192
                          go_wp2_with (first | ((with_reducible refine gate_dst (N := 9) rfl ?_); (try (refine gate_guard (by rfl) ?_; dsimp only)); refine box_event ?hg (N := 9) ?hd (cs := #[.int .i64 0, .int .i64 0, .bool false]) (t := 35) ?hr ?_; (case hd => rfl); (case hg => rfl); (case hr => first | (go_simp; done) | (go_simp; rfl)); intro gb193 hg w23 hbox hb; have n0_ := Aside0.mk (Kd.V_below (Kd.V_elderB (by (with_reducible repeat (first | apply Kd.V_alloc | apply Kd.V_drewN | apply Kd.V_drew)); exact HO_0.out) gb193 (Nat.le_of_eq hg.symm)) hb); have n1_ := Aside0.mk (Kd.R_below (by (with_reducible repeat (first | apply Kd.R_alloc | apply Kd.R_drewN | apply Kd.R_drew)); exact HO_7.out) hb); have n2_ := Aside0.mk (Kd.V_below (Kd.V_elderB (by (with_reducible repeat (first | apply Kd.V_alloc | apply Kd.V_drewN | apply Kd.V_drew)); exact HO_29.out) gb193 (Nat.le_of_eq hg.symm)) hb); have n3_ := Aside0.mk (below_step (by repeat (first | (with_reducible first | exact HB.out | apply below_alloc | apply pw_below_drewN | apply below_drew1) | exact HB.out)) hb); have n4_ := Aside0.mk (hbox); have n5_ := Aside0.mk ((by rw [hg]; exact (below_size (by repeat (first | (with_reducible first | exact HB.out | apply below_alloc | apply pw_below_drewN | apply below_drew1) | exact HB.out))) : w.heap.size ≤ gb193)); have n6_ := Aside0.mk ((by rw [hg]; exact (below_size (by repeat (first | (with_reducible first | exact HB.out | apply below_alloc | apply pw_below_drewN | apply below_drew1) | exact HB.out))) : w.heap.size ≤ gb193)); clear HO_0; clear HO_7; clear HO_29; clear HB; have HO_0 := n0_; have HO_7 := n1_; have HO_29 := n2_; have HB := n3_; have BK193 := n4_; have GW193 := n5_; have GE193 := n6_; clear n0_ n1_ n2_ n3_ n4_ n5_ n6_; clear hb hbox hg; have hcz24_0 : w23.cell? ⟨gb193, 0, none⟩ = some (.int .i64 0) := (blk_cell BK193.out 0).trans rfl; have hcz24_1 : w23.cell? ⟨gb193, 1, none⟩ = some (.int .i64 0) := (blk_cell BK193.out 1).trans rfl; have hcz24_2 : w23.cell? ⟨gb193, 2, none⟩ = some (.bool false) := (blk_cell BK193.out 2).trans rfl; have hfz24_0 := blk_frozen BK193.out 0; have hfz24_1 := blk_frozen BK193.out 1; have hfz24_2 := blk_frozen BK193.out 2))
                          go_roundg k3
                          case measure => have := HJ3.out; have := HK2.out; have := HK3.out; omega
                          case rel => exact ⟨(x7_3), (wrap64 (x31_3 + 1)), (by first | rfl | (simp; done) | (simp [*]; done)), H', ⟨by have := HJ3.out; have := HK2.out; have := HK3.out; omega⟩, ⟨by (with_reducible repeat (first | apply Kd.V_alloc | apply Kd.V_drewN | apply Kd.V_drew)); exact Kd.V_mono (Kd.V_far (p := ⟨gb193, 2, none⟩) (Kd.V_far (p := ⟨gb193, 1, none⟩) (Kd.V_far (p := ⟨gb193, 0, none⟩) (Kd.V_mono HO_0.out (fun k_ hk => (⟨hk, hk.2⟩ : _ ∧ k_ ≠ gb193))) (fun _ hk => hk.2) (.int .i64 ((rd_T35 x0_2 x31_3).f0))) (fun _ hk => hk.2) (.int .i64 ((rd_T35 x0_2 x31_3).f1))) (fun _ hk => hk.2) (.bool false)) (fun _ hk => ⟨hk.1.1.1, hk.1.1.2⟩)⟩, ⟨by (with_reducible repeat (first | apply Kd.R_alloc | apply Kd.R_drewN | apply Kd.R_drew)); exact Kd.R_mono (Kd.R_far (p := ⟨gb193, 2, none⟩) (Kd.R_far (p := ⟨gb193, 1, none⟩) (Kd.R_far (p := ⟨gb193, 0, none⟩) (Kd.R_types HO_7.out BK193.out (by decide)) (fun _ hk => hk.2) (.int .i64 ((rd_T35 x0_2 x31_3).f0))) (fun _ hk => hk.2) (.int .i64 ((rd_T35 x0_2 x31_3).f1))) (fun _ hk => hk.2) (.bool false)) (fun _ hk => hk.1)⟩, ⟨by (with_reducible repeat (first | apply Kd.V_alloc | apply Kd.V_drewN | apply Kd.V_drew)); exact Kd.V_mono (Kd.V_far (p := ⟨gb193, 2, none⟩) (Kd.V_far (p := ⟨gb193, 1, none⟩) (Kd.V_far (p := ⟨gb193, 0, none⟩) (Kd.V_mono HO_29.out (fun k_ hk => (⟨hk, hk.2⟩ : _ ∧ k_ ≠ gb193))) (fun _ hk => hk.2) (.int .i64 ((rd_T35 x0_2 x31_3).f0))) (fun _ hk => hk.2) (.int .i64 ((rd_T35 x0_2 x31_3).f1))) (fun _ hk => hk.2) (.bool false)) (fun _ hk => ⟨hk.1.1.1, hk.1.1.2⟩)⟩, ⟨by repeat (first | (with_reducible first | exact HB.out | apply below_alloc | apply pw_below_drewN | apply below_drew1 | refine below_set ?_ GE193.out) | exact HB.out)⟩⟩
                      · rw [if_neg c16] at H
                        exact absurd H (by simp)
                    · rw [if_neg c15] at H
                      exact absurd H (by simp)
                  · rw [if_neg c14] at H
                    have c14b0 : decide (x31_3 < (x0_2.length : Int)) = false := decide_eq_false c14
                    clear c14
                    by_cases c25 : (x7_3.length : Int) = 0
                    · rw [if_pos c25] at H
                      have c25b0 : ((x7_3.length : Int) == 0) = true := beq_iff_eq.mpr c25
                      have c25b1 : ((x7_3.length : Int) != 0) = false := bne_eq_false_iff_eq.mpr c25
                      clear c25
                      by_cases c26 : (x0_2.length : Int) = 1
                      · rw [if_pos c26] at H
                        have c26b0 : ((x0_2.length : Int) == 1) = true := beq_iff_eq.mpr c26
                        have c26b1 : ((x0_2.length : Int) != 1) = false := bne_eq_false_iff_eq.mpr c26
                        clear c26
                        by_cases c27 : 0 < (x0_2.length : Int)
                        · rw [if_pos c27] at H
                          have c27b0 : decide (0 < (x0_2.length : Int)) = true := decide_eq_true c27
                          have c27b1 : decide (0 < x0_2.length) = true := decide_eq_true (by omega)
                          clear c27
                          by_cases c28 : (((rd_T35 x0_2 0).f0) == 0 && (((rd_T35 x0_2 0).f1) == a1 && (!((rd_T35 x0_2 0).f2)))) = true
                          · rw [if_pos c28] at H
                            have c28b0 : (((rd_T35 x0_2 0).f0) == 0 && (((rd_T35 x0_2 0).f1) == a1 && (!((rd_T35 x0_2 0).f2)))) = true := c28
                            (try (have c28b1 : decide (((rd_T35 x0_2 0).f0) = 0 && (((rd_T35 x0_2 0).f1) == a1 && (!((rd_T35 x0_2 0).f2)))) = true := by simpa using c28))
                            (try (have c28b2 : (((rd_T35 x0_2 0).f0) == 0 && (((rd_T35 x0_2 0).f1) == a1 && (!((rd_T35 x0_2 0).f2)))) = true := by simpa using c28))
                            clear c28
                            replace H := Option.bind_eq_some_iff.mp H
                            obtain ⟨t198, A290, H⟩ := H
                            replace H : (some t198) = some r := H
                            have A29 := Aside0.mk A290
                            clear A290
                            obtain rfl := Option.some.inj H
                            obtain ⟨Ao30, co30, eo30⟩ := Kd.R_slice HO_7.out
                            subst eo30
                            have p197 : 0 ≤ (0 : Int) := (by omega)
                            have q197 : 0 < (x0_2.length : Int) := of_decide_eq_true (by first | (with_reducible assumption) | assumption)
                            obtain ⟨ad197, e197, hx197_0, hx197_1, hx197_2⟩ := at_T35 (Kd.V_reads' HO_0.out).2.2 0 p197 q197
                            cases e197
                            have qi197 : (0 < x0_2.length) = True := eq_true (by omega)
                            (try rw [show ((0 : Int)).toNat = 0 from rfl] at hx197_0)
                            (try rw [show 0 * 3 = 0 from rfl] at hx197_0)
                            (try rw [Addr.add_zero'] at hx197_0)
                            (try rw [show ((0 : Int)).toNat = 0 from rfl] at hx197_1)
                            (try rw [show 0 * 3 = 0 from rfl] at hx197_1)
                            (try rw [Addr.add_zero'] at hx197_1)
                            (try rw [show ((0 : Int)).toNat = 0 from rfl] at hx197_2)
                            (try rw [show 0 * 3 = 0 from rfl] at hx197_2)
                            (try rw [Addr.add_zero'] at hx197_2)
                            replace p197 := eq_true p197
                            replace q197 := eq_true q197
                            go_wp2_with (first | (go_at_call 15; (with_reducible refine (darninglaw17_awake.calls k3  t198 _ A29.out).mono ?_); rintro e w31 ⟨rfl, hb⟩; have n0_ := Aside0.mk (Kd.V_below (by (with_reducible repeat (first | apply Kd.V_alloc | apply Kd.V_drewN | apply Kd.V_drew)); exact HO_0.out) hb); have n1_ := Aside0.mk (Kd.R_below (by (with_reducible repeat (first | apply Kd.R_alloc | apply Kd.R_drewN | apply Kd.R_drew)); exact HO_7.out) hb); have n2_ := Aside0.mk (Kd.V_below (by (with_reducible repeat (first | apply Kd.V_alloc | apply Kd.V_drewN | apply Kd.V_drew)); exact HO_29.out) hb); have n3_ := Aside0.mk (below_step (by repeat (first | (with_reducible first | exact HB.out | apply below_alloc | apply pw_below_drewN | apply below_drew1) | exact HB.out)) hb); clear HO_0; clear HO_7; clear HO_29; clear HB; have HO_0 := n0_; have HO_7 := n1_; have HO_29 := n2_; have HB := n3_; clear n0_ n1_ n2_ n3_; (try clear hb); (try clear hb2); (try clear hk); (try clear hi)))
                            go_ret
                            exact ⟨by first | rfl | (simp [errW_none, errW_some] <;> rfl) | (simp [*, errW_none, errW_some] <;> rfl), by repeat (first | (with_reducible first | exact HB.out | apply below_alloc | apply pw_below_drewN | apply below_drew1) | exact HB.out)⟩
                          · rw [if_neg c28] at H
                            have c28b0 : (((rd_T35 x0_2 0).f0) == 0 && (((rd_T35 x0_2 0).f1) == a1 && (!((rd_T35 x0_2 0).f2)))) = false := by simpa using c28
                            (try (have c28b1 : decide (((rd_T35 x0_2 0).f0) = 0 && (((rd_T35 x0_2 0).f1) == a1 && (!((rd_T35 x0_2 0).f2)))) = false := by simpa using c28))
                            (try (have c28b2 : (((rd_T35 x0_2 0).f0) == 0 && (((rd_T35 x0_2 0).f1) == a1 && (!((rd_T35 x0_2 0).f2)))) = false := by simpa using c28))
                            (try (have c28b3 : ¬ (((rd_T35 x0_2 0).f0) = 0 && (((rd_T35 x0_2 0).f1) == a1 && (!((rd_T35 x0_2 0).f2)))) := by simpa using c28))
                            clear c28
                            obtain rfl := Option.some.inj H
                            obtain ⟨Ao32, co32, eo32⟩ := Kd.R_slice HO_7.out
                            subst eo32
                            have p197 : 0 ≤ (0 : Int) := (by omega)
                            have q197 : 0 < (x0_2.length : Int) := of_decide_eq_true (by first | (with_reducible assumption) | assumption)
                            obtain ⟨ad197, e197, hx197_0, hx197_1, hx197_2⟩ := at_T35 (Kd.V_reads' HO_0.out).2.2 0 p197 q197
                            cases e197
                            have qi197 : (0 < x0_2.length) = True := eq_true (by omega)
                            (try rw [show ((0 : Int)).toNat = 0 from rfl] at hx197_0)
                            (try rw [show 0 * 3 = 0 from rfl] at hx197_0)
                            (try rw [Addr.add_zero'] at hx197_0)
                            (try rw [show ((0 : Int)).toNat = 0 from rfl] at hx197_1)
                            (try rw [show 0 * 3 = 0 from rfl] at hx197_1)
                            (try rw [Addr.add_zero'] at hx197_1)
                            (try rw [show ((0 : Int)).toNat = 0 from rfl] at hx197_2)
                            (try rw [show 0 * 3 = 0 from rfl] at hx197_2)
                            (try rw [Addr.add_zero'] at hx197_2)
                            replace p197 := eq_true p197
                            replace q197 := eq_true q197
                            go_wp2
                            go_ret
                            exact ⟨by first | rfl | (simp [errW_none, errW_some] <;> rfl) | (simp [*, errW_none, errW_some] <;> rfl), by repeat (first | (with_reducible first | exact HB.out | apply below_alloc | apply pw_below_drewN | apply below_drew1) | exact HB.out)⟩
                        · rw [if_neg c27] at H
                          exact absurd H (by simp)
                      · rw [if_neg c26] at H
                        have c26b0 : ((x0_2.length : Int) == 1) = false := beq_eq_false_iff_ne.mpr c26
                        have c26b1 : ((x0_2.length : Int) != 1) = true := bne_iff_ne.mpr c26
                        obtain rfl := Option.some.inj H
                        obtain ⟨Ao33, co33, eo33⟩ := Kd.R_slice HO_7.out
                        subst eo33
                        go_wp2
                        go_ret
                        exact ⟨by first | rfl | (simp [errW_none, errW_some] <;> rfl) | (simp [*, errW_none, errW_some] <;> rfl), by repeat (first | (with_reducible first | exact HB.out | apply below_alloc | apply pw_below_drewN | apply below_drew1) | exact HB.out)⟩
                    · rw [if_neg c25] at H
                      have c25b0 : ((x7_3.length : Int) == 0) = false := beq_eq_false_iff_ne.mpr c25
                      have c25b1 : ((x7_3.length : Int) != 0) = true := bne_iff_ne.mpr c25
                      have c25b2 : ¬ (x7_3 = []) := fun h_ => c25 (by rw [h_]; rfl)
                      by_cases c34 : (IntKind.u64.wrap ((x7_3.length : Int))) = 0
                      · rw [if_pos c34] at H
                        exact absurd H (by simp)
                      · rw [if_neg c34] at H
                        have c34b0 : ((IntKind.u64.wrap ((x7_3.length : Int))) == 0) = false := beq_eq_false_iff_ne.mpr c34
                        have c34b1 : ((IntKind.u64.wrap ((x7_3.length : Int))) != 0) = true := bne_iff_ne.mpr c34
                        obtain ⟨ji35, hji35⟩ : ∃ j_ : Int, (wrap64 (Int.tmod (IntKind.u64.wrap (x2_2)) (IntKind.u64.wrap ((x7_3.length : Int))))) = j_ := ⟨_, rfl⟩
                        replace H : (if 0 ≤ (ji35) then (if (ji35) < (x7_3.length : Int) then ((merge_Blocks.f k3 x0_2 (rd x7_3 (ji35))).bind fun bt200 => (if bt200.2 = true then ((darningref4_MayBlocks.f k3 bt200.1 a1).bind fun t204 => (if t204 = true then (if (bt200.1.length : Int) > (x0_2.length : Int) then (some false) else (darninglaw17_MergeAll.l0 k3 bt200.1 a1 (wrap64 ((wrap64 (x2_2 * 5)) + 1)) (wrap64 (x27_2 + 1)))) else (some false))) else (some false))) else (none)) else (none)) = some r := by first | (rw [hji35] at H; exact H) | (simp only [hji35] at H ⊢; exact H)
                        have hji35w : (IntKind.i64.wrap (Int.tmod (IntKind.u64.wrap (x2_2)) (IntKind.u64.wrap ((x7_3.length : Int))))) = ji35 := (i64_w _).trans hji35
                        by_cases c36 : 0 ≤ (ji35)
                        · rw [if_pos c36] at H
                          have c36b0 : decide (0 ≤ (ji35)) = true := decide_eq_true c36
                          clear c36
                          by_cases c37 : (ji35) < (x7_3.length : Int)
                          · rw [if_pos c37] at H
                            have c37b0 : decide ((ji35) < (x7_3.length : Int)) = true := decide_eq_true c37
                            clear c37
                            replace H := Option.bind_eq_some_iff.mp H
                            obtain ⟨⟨t200, t203⟩, A380, H⟩ := H
                            replace H : (if t203 = true then ((darningref4_MayBlocks.f k3 t200 a1).bind fun t204 => (if t204 = true then (if (t200.length : Int) > (x0_2.length : Int) then (some false) else (darninglaw17_MergeAll.l0 k3 t200 a1 (wrap64 ((wrap64 (x2_2 * 5)) + 1)) (wrap64 (x27_2 + 1)))) else (some false))) else (some false)) = some r := H
                            have A38 := Aside0.mk A380
                            clear A380
                            by_cases c39 : t203 = true
                            · subst c39
                              have H1 : ((darningref4_MayBlocks.f k3 t200 a1).bind fun t204 => (if t204 = true then (if (t200.length : Int) > (x0_2.length : Int) then (some false) else (darninglaw17_MergeAll.l0 k3 t200 a1 (wrap64 ((wrap64 (x2_2 * 5)) + 1)) (wrap64 (x27_2 + 1)))) else (some false))) = some r := by rw [if_pos rfl] at H; exact H
                              clear H
                              have H := H1
                              clear H1
                              replace H := Option.bind_eq_some_iff.mp H
                              obtain ⟨t204, A400, H⟩ := H
                              replace H : (if t204 = true then (if (t200.length : Int) > (x0_2.length : Int) then (some false) else (darninglaw17_MergeAll.l0 k3 t200 a1 (wrap64 ((wrap64 (x2_2 * 5)) + 1)) (wrap64 (x27_2 + 1)))) else (some false)) = some r := H
                              have A40 := Aside0.mk A400
                              clear A400
                              by_cases c41 : t204 = true
                              · subst c41
                                have H1 : (if (t200.length : Int) > (x0_2.length : Int) then (some false) else (darninglaw17_MergeAll.l0 k3 t200 a1 (wrap64 ((wrap64 (x2_2 * 5)) + 1)) (wrap64 (x27_2 + 1)))) = some r := by rw [if_pos rfl] at H; exact H
                                clear H
                                have H := H1
                                clear H1
                                by_cases c42 : (t200.length : Int) > (x0_2.length : Int)
                                · rw [if_pos c42] at H
                                  have c42b0 : decide ((x0_2.length : Int) < (t200.length : Int)) = true := decide_eq_true c42
                                  have c42b1 : decide (x0_2.length < t200.length) = true := decide_eq_true (Int.ofNat_lt.mp c42)
                                  clear c42
                                  obtain rfl := Option.some.inj H
                                  obtain ⟨Ao43, co43, eo43⟩ := Kd.R_slice HO_7.out
                                  subst eo43
                                  have p199 : 0 ≤ ((ji35) : Int) := of_decide_eq_true (by first | (with_reducible assumption) | assumption)
                                  have q199 : (ji35) < (x7_3.length : Int) := of_decide_eq_true (by first | (with_reducible assumption) | assumption)
                                  obtain ⟨ad199, e199, hx199_0⟩ := Kd.at_int (Kd.R_reads' HO_7.out).2.2 (ji35) p199 q199
                                  cases e199
                                  replace p199 := eq_true p199
                                  replace q199 := eq_true q199
                                  go_wp2_with (first | ((with_reducible refine gate_callee (f := 16) rfl ?_); refine goesL_ (some 58) rfl rfl Try.func16 (by kernel_rfl) rfl #[.slice Ao13 x0_2.length co13, .int .i64 (rd x7_3 (ji35))] rfl (by (try simp only [List.map_toArray, List.map_cons, List.map_nil]); first | done | (simp only [hji35]; rfl) | rfl | (simp only [List.length_drop, List.length_take]; rfl)) ?_; (with_reducible refine (merge_Blocks.calls k3 (fun k_ => ((P0_ k_ ∨ w.heap.size ≤ k_) ∧ some k_ ≠ (.slice (some ad199) x7_3.length co43 : Value).ownBlock)) _ _ x0_2 (rd x7_3 (ji35)) t200 true _ ?side1 A38.out).mono ?_); (case side1 => exact HO_0.out); rintro e w44 ⟨v201, rfl, ho0, hb⟩; refine ⟨_, rfl, ?_⟩; have n0_ := Aside0.mk (Kd.V_elder' (by (with_reducible repeat (first | apply Kd.V_alloc | apply Kd.V_drewN | apply Kd.V_drew)); exact HO_0.out) (Kd.R_base ho0) hb); have n1_ := Aside0.mk (Kd.R_below (by (with_reducible repeat (first | apply Kd.R_alloc | apply Kd.R_drewN | apply Kd.R_drew)); exact HO_7.out) hb); have n2_ := Aside0.mk (Kd.V_elder' (by (with_reducible repeat (first | apply Kd.V_alloc | apply Kd.V_drewN | apply Kd.V_drew)); exact HO_29.out) (Kd.R_base ho0) hb); have n3_ := Aside0.mk (Kd.R_lower (Kd.R_newM (M := fun k_ => (w.heap.size ≤ k_)) (Kd.R_mono (ok' := fun k_ => True) ho0 (fun _ hk_ => trivial)) (below_size (by repeat (first | (with_reducible first | exact HB.out | apply below_alloc | apply pw_below_drewN | apply below_drew1) | exact HB.out))) (fun k_ h_ => h_)) (below_size (by repeat (first | (with_reducible first | exact HB.out | apply below_alloc | apply pw_below_drewN | apply below_drew1) | exact HB.out)))); have n4_ := Aside0.mk (below_step (by repeat (first | (with_reducible first | exact HB.out | apply below_alloc | apply pw_below_drewN | apply below_drew1) | exact HB.out)) hb); clear HO_0; clear HO_7; clear HO_29; clear HB; have HO_0 := n0_; have HO_7 := n1_; have HO_29 := n2_; have HO202 := n3_; have HB := n4_; clear n0_ n1_ n2_ n3_ n4_; (try clear hb); (try clear hb2); (try clear hk); (try clear hi); (try clear ho0); obtain ⟨Ao45, co45, eo45⟩ := Kd.R_slice HO202.out; subst eo45) | (go_at_call 21; (with_reducible refine (darningref4_MayBlocks.calls k3 _ _ t200 a1 true _ ?side1 ?side2 A40.out).mono ?_); (case side1 => repeat (first | exact (Kd.R_reads' HO202.out).2.2 | (with_reducible refine Kd.C_alloc ?_ _) | (with_reducible refine Kd.C_drewN ?_ _) | (with_reducible refine Kd.C_drew ?_))); (case side2 => exact (Kd.R_reads' HO202.out).2.1); rintro e w46 ⟨rfl, hb⟩; have n0_ := Aside0.mk (Kd.V_below (by (with_reducible repeat (first | apply Kd.V_alloc | apply Kd.V_drewN | apply Kd.V_drew)); exact HO_0.out) hb); have n1_ := Aside0.mk (Kd.R_below (by (with_reducible repeat (first | apply Kd.R_alloc | apply Kd.R_drewN | apply Kd.R_drew)); exact HO_7.out) hb); have n2_ := Aside0.mk (Kd.V_below (by (with_reducible repeat (first | apply Kd.V_alloc | apply Kd.V_drewN | apply Kd.V_drew)); exact HO_29.out) hb); have n3_ := Aside0.mk (Kd.R_below (by (with_reducible repeat (first | apply Kd.R_alloc | apply Kd.R_drewN | apply Kd.R_drew)); exact HO202.out) hb); have n4_ := Aside0.mk (below_step (by repeat (first | (with_reducible first | exact HB.out | apply below_alloc | apply pw_below_drewN | apply below_drew1) | exact HB.out)) hb); clear HO_0; clear HO_7; clear HO_29; clear HO202; clear HB; have HO_0 := n0_; have HO_7 := n1_; have HO_29 := n2_; have HO202 := n3_; have HB := n4_; clear n0_ n1_ n2_ n3_ n4_; (try clear hb); (try clear hb2); (try clear hk); (try clear hi)))
                                  go_ret
                                  exact ⟨by first | rfl | (simp [errW_none, errW_some] <;> rfl) | (simp only [← hji35]; first | rfl | (simp [errW_none, errW_some] <;> rfl)) | (simp [*, errW_none, errW_some] <;> rfl), by repeat (first | (with_reducible first | exact HB.out | apply below_alloc | apply pw_below_drewN | apply below_drew1) | exact HB.out)⟩
                                · rw [if_neg c42] at H
                                  have c42b0 : decide ((x0_2.length : Int) < (t200.length : Int)) = false := decide_eq_false c42
                                  have c42b1 : decide (x0_2.length < t200.length) = false := decide_eq_false (fun h => c42 (Int.ofNat_lt.mpr h))
                                  clear c42
                                  have H' := Aside0.mk H
                                  clear H
                                  obtain ⟨Ao47, co47, eo47⟩ := Kd.R_slice HO_7.out
                                  subst eo47
                                  have p199 : 0 ≤ ((ji35) : Int) := of_decide_eq_true (by first | (with_reducible assumption) | assumption)
                                  have q199 : (ji35) < (x7_3.length : Int) := of_decide_eq_true (by first | (with_reducible assumption) | assumption)
                                  obtain ⟨ad199, e199, hx199_0⟩ := Kd.at_int (Kd.R_reads' HO_7.out).2.2 (ji35) p199 q199
                                  cases e199
                                  replace p199 := eq_true p199
                                  replace q199 := eq_true q199
                                  go_wp2_with (first | ((with_reducible refine gate_callee (f := 16) rfl ?_); refine goesL_ (some 58) rfl rfl Try.func16 (by kernel_rfl) rfl #[.slice Ao13 x0_2.length co13, .int .i64 (rd x7_3 (ji35))] rfl (by (try simp only [List.map_toArray, List.map_cons, List.map_nil]); first | done | (simp only [hji35]; rfl) | rfl | (simp only [List.length_drop, List.length_take]; rfl)) ?_; (with_reducible refine (merge_Blocks.calls k3 (fun k_ => ((P0_ k_ ∨ w.heap.size ≤ k_) ∧ some k_ ≠ (.slice (some ad199) x7_3.length co47 : Value).ownBlock)) _ _ x0_2 (rd x7_3 (ji35)) t200 true _ ?side1 A38.out).mono ?_); (case side1 => exact HO_0.out); rintro e w48 ⟨v201, rfl, ho0, hb⟩; refine ⟨_, rfl, ?_⟩; have n0_ := Aside0.mk (Kd.V_elder' (by (with_reducible repeat (first | apply Kd.V_alloc | apply Kd.V_drewN | apply Kd.V_drew)); exact HO_0.out) (Kd.R_base ho0) hb); have n1_ := Aside0.mk (Kd.R_below (by (with_reducible repeat (first | apply Kd.R_alloc | apply Kd.R_drewN | apply Kd.R_drew)); exact HO_7.out) hb); have n2_ := Aside0.mk (Kd.V_elder' (by (with_reducible repeat (first | apply Kd.V_alloc | apply Kd.V_drewN | apply Kd.V_drew)); exact HO_29.out) (Kd.R_base ho0) hb); have n3_ := Aside0.mk (Kd.R_lower (Kd.R_newM (M := fun k_ => (w.heap.size ≤ k_)) (Kd.R_mono (ok' := fun k_ => True) ho0 (fun _ hk_ => trivial)) (below_size (by repeat (first | (with_reducible first | exact HB.out | apply below_alloc | apply pw_below_drewN | apply below_drew1) | exact HB.out))) (fun k_ h_ => h_)) (below_size (by repeat (first | (with_reducible first | exact HB.out | apply below_alloc | apply pw_below_drewN | apply below_drew1) | exact HB.out)))); have n4_ := Aside0.mk (below_step (by repeat (first | (with_reducible first | exact HB.out | apply below_alloc | apply pw_below_drewN | apply below_drew1) | exact HB.out)) hb); clear HO_0; clear HO_7; clear HO_29; clear HB; have HO_0 := n0_; have HO_7 := n1_; have HO_29 := n2_; have HO202 := n3_; have HB := n4_; clear n0_ n1_ n2_ n3_ n4_; (try clear hb); (try clear hb2); (try clear hk); (try clear hi); (try clear ho0); obtain ⟨Ao49, co49, eo49⟩ := Kd.R_slice HO202.out; subst eo49) | (go_at_call 21; (with_reducible refine (darningref4_MayBlocks.calls k3 _ _ t200 a1 true _ ?side1 ?side2 A40.out).mono ?_); (case side1 => repeat (first | exact (Kd.R_reads' HO202.out).2.2 | (with_reducible refine Kd.C_alloc ?_ _) | (with_reducible refine Kd.C_drewN ?_ _) | (with_reducible refine Kd.C_drew ?_))); (case side2 => exact (Kd.R_reads' HO202.out).2.1); rintro e w50 ⟨rfl, hb⟩; have n0_ := Aside0.mk (Kd.V_below (by (with_reducible repeat (first | apply Kd.V_alloc | apply Kd.V_drewN | apply Kd.V_drew)); exact HO_0.out) hb); have n1_ := Aside0.mk (Kd.R_below (by (with_reducible repeat (first | apply Kd.R_alloc | apply Kd.R_drewN | apply Kd.R_drew)); exact HO_7.out) hb); have n2_ := Aside0.mk (Kd.V_below (by (with_reducible repeat (first | apply Kd.V_alloc | apply Kd.V_drewN | apply Kd.V_drew)); exact HO_29.out) hb); have n3_ := Aside0.mk (Kd.R_below (by (with_reducible repeat (first | apply Kd.R_alloc | apply Kd.R_drewN | apply Kd.R_drew)); exact HO202.out) hb); have n4_ := Aside0.mk (below_step (by repeat (first | (with_reducible first | exact HB.out | apply below_alloc | apply pw_below_drewN | apply below_drew1) | exact HB.out)) hb); clear HO_0; clear HO_7; clear HO_29; clear HO202; clear HB; have HO_0 := n0_; have HO_7 := n1_; have HO_29 := n2_; have HO202 := n3_; have HB := n4_; clear n0_ n1_ n2_ n3_ n4_; (try clear hb); (try clear hb2); (try clear hk); (try clear hi)))
                                  go_roundg k3
                                  case measure => have := HJ3.out; have := HK2.out; have := HK3.out; omega
                                  case rel => exact ⟨(t200), (wrap64 ((wrap64 (x2_2 * 5)) + 1)), (wrap64 (x27_2 + 1)), (by first | rfl | (simp; done) | (simp [*]; done)), (by first | rfl | (simp; done) | (simp [*]; done)), H', ⟨by have := HJ3.out; have := HK2.out; have := HK3.out; omega⟩, ⟨Kd.V_mono (Kd.R_V (by (with_reducible repeat (first | apply Kd.R_alloc | apply Kd.R_drewN | apply Kd.R_drew)); exact Kd.R_mono HO202.out (fun _ hk => hk.1))) (fun k_ hk => by first | exact ⟨(.inr (hk.1)), hk.2⟩ | exact (.inr (hk)))⟩, ⟨by repeat (first | (with_reducible first | exact HB.out | apply below_alloc | apply pw_below_drewN | apply below_drew1) | exact HB.out)⟩⟩
                              · replace c41 := Bool.eq_false_iff.mpr c41
                                subst c41
                                have H1 : (some false) = some r := by rw [if_neg (show ¬ (false = true) by decide)] at H; exact H
                                clear H
                                have H := H1
                                clear H1
                                obtain rfl := Option.some.inj H
                                obtain ⟨Ao51, co51, eo51⟩ := Kd.R_slice HO_7.out
                                subst eo51
                                have p199 : 0 ≤ ((ji35) : Int) := of_decide_eq_true (by first | (with_reducible assumption) | assumption)
                                have q199 : (ji35) < (x7_3.length : Int) := of_decide_eq_true (by first | (with_reducible assumption) | assumption)
                                obtain ⟨ad199, e199, hx199_0⟩ := Kd.at_int (Kd.R_reads' HO_7.out).2.2 (ji35) p199 q199
                                cases e199
                                replace p199 := eq_true p199
                                replace q199 := eq_true q199
                                go_wp2_with (first | ((with_reducible refine gate_callee (f := 16) rfl ?_); refine goesL_ (some 58) rfl rfl Try.func16 (by kernel_rfl) rfl #[.slice Ao13 x0_2.length co13, .int .i64 (rd x7_3 (ji35))] rfl (by (try simp only [List.map_toArray, List.map_cons, List.map_nil]); first | done | (simp only [hji35]; rfl) | rfl | (simp only [List.length_drop, List.length_take]; rfl)) ?_; (with_reducible refine (merge_Blocks.calls k3 (fun k_ => ((P0_ k_ ∨ w.heap.size ≤ k_) ∧ some k_ ≠ (.slice (some ad199) x7_3.length co51 : Value).ownBlock)) _ _ x0_2 (rd x7_3 (ji35)) t200 true _ ?side1 A38.out).mono ?_); (case side1 => exact HO_0.out); rintro e w52 ⟨v201, rfl, ho0, hb⟩; refine ⟨_, rfl, ?_⟩; have n0_ := Aside0.mk (Kd.V_elder' (by (with_reducible repeat (first | apply Kd.V_alloc | apply Kd.V_drewN | apply Kd.V_drew)); exact HO_0.out) (Kd.R_base ho0) hb); have n1_ := Aside0.mk (Kd.R_below (by (with_reducible repeat (first | apply Kd.R_alloc | apply Kd.R_drewN | apply Kd.R_drew)); exact HO_7.out) hb); have n2_ := Aside0.mk (Kd.V_elder' (by (with_reducible repeat (first | apply Kd.V_alloc | apply Kd.V_drewN | apply Kd.V_drew)); exact HO_29.out) (Kd.R_base ho0) hb); have n3_ := Aside0.mk (Kd.R_lower (Kd.R_newM (M := fun k_ => (w.heap.size ≤ k_)) (Kd.R_mono (ok' := fun k_ => True) ho0 (fun _ hk_ => trivial)) (below_size (by repeat (first | (with_reducible first | exact HB.out | apply below_alloc | apply pw_below_drewN | apply below_drew1) | exact HB.out))) (fun k_ h_ => h_)) (below_size (by repeat (first | (with_reducible first | exact HB.out | apply below_alloc | apply pw_below_drewN | apply below_drew1) | exact HB.out)))); have n4_ := Aside0.mk (below_step (by repeat (first | (with_reducible first | exact HB.out | apply below_alloc | apply pw_below_drewN | apply below_drew1) | exact HB.out)) hb); clear HO_0; clear HO_7; clear HO_29; clear HB; have HO_0 := n0_; have HO_7 := n1_; have HO_29 := n2_; have HO202 := n3_; have HB := n4_; clear n0_ n1_ n2_ n3_ n4_; (try clear hb); (try clear hb2); (try clear hk); (try clear hi); (try clear ho0); obtain ⟨Ao53, co53, eo53⟩ := Kd.R_slice HO202.out; subst eo53) | (go_at_call 21; (with_reducible refine (darningref4_MayBlocks.calls k3 _ _ t200 a1 false _ ?side1 ?side2 A40.out).mono ?_); (case side1 => repeat (first | exact (Kd.R_reads' HO202.out).2.2 | (with_reducible refine Kd.C_alloc ?_ _) | (with_reducible refine Kd.C_drewN ?_ _) | (with_reducible refine Kd.C_drew ?_))); (case side2 => exact (Kd.R_reads' HO202.out).2.1); rintro e w54 ⟨rfl, hb⟩; have n0_ := Aside0.mk (Kd.V_below (by (with_reducible repeat (first | apply Kd.V_alloc | apply Kd.V_drewN | apply Kd.V_drew)); exact HO_0.out) hb); have n1_ := Aside0.mk (Kd.R_below (by (with_reducible repeat (first | apply Kd.R_alloc | apply Kd.R_drewN | apply Kd.R_drew)); exact HO_7.out) hb); have n2_ := Aside0.mk (Kd.V_below (by (with_reducible repeat (first | apply Kd.V_alloc | apply Kd.V_drewN | apply Kd.V_drew)); exact HO_29.out) hb); have n3_ := Aside0.mk (Kd.R_below (by (with_reducible repeat (first | apply Kd.R_alloc | apply Kd.R_drewN | apply Kd.R_drew)); exact HO202.out) hb); have n4_ := Aside0.mk (below_step (by repeat (first | (with_reducible first | exact HB.out | apply below_alloc | apply pw_below_drewN | apply below_drew1) | exact HB.out)) hb); clear HO_0; clear HO_7; clear HO_29; clear HO202; clear HB; have HO_0 := n0_; have HO_7 := n1_; have HO_29 := n2_; have HO202 := n3_; have HB := n4_; clear n0_ n1_ n2_ n3_ n4_; (try clear hb); (try clear hb2); (try clear hk); (try clear hi)))
                                go_ret
                                exact ⟨by first | rfl | (simp [errW_none, errW_some] <;> rfl) | (simp only [← hji35]; first | rfl | (simp [errW_none, errW_some] <;> rfl)) | (simp [*, errW_none, errW_some] <;> rfl), by repeat (first | (with_reducible first | exact HB.out | apply below_alloc | apply pw_below_drewN | apply below_drew1) | exact HB.out)⟩
                            · replace c39 := Bool.eq_false_iff.mpr c39
                              subst c39
                              have H1 : (some false) = some r := by rw [if_neg (show ¬ (false = true) by decide)] at H; exact H
                              clear H
                              have H := H1
                              clear H1
                              obtain rfl := Option.some.inj H
                              obtain ⟨Ao55, co55, eo55⟩ := Kd.R_slice HO_7.out
                              subst eo55
                              have p199 : 0 ≤ ((ji35) : Int) := of_decide_eq_true (by first | (with_reducible assumption) | assumption)
                              have q199 : (ji35) < (x7_3.length : Int) := of_decide_eq_true (by first | (with_reducible assumption) | assumption)
                              obtain ⟨ad199, e199, hx199_0⟩ := Kd.at_int (Kd.R_reads' HO_7.out).2.2 (ji35) p199 q199
                              cases e199
                              replace p199 := eq_true p199
                              replace q199 := eq_true q199
                              go_wp2_with (first | ((with_reducible refine gate_callee (f := 16) rfl ?_); refine goesL_ (some 58) rfl rfl Try.func16 (by kernel_rfl) rfl #[.slice Ao13 x0_2.length co13, .int .i64 (rd x7_3 (ji35))] rfl (by (try simp only [List.map_toArray, List.map_cons, List.map_nil]); first | done | (simp only [hji35]; rfl) | rfl | (simp only [List.length_drop, List.length_take]; rfl)) ?_; (with_reducible refine (merge_Blocks.calls k3 (fun k_ => ((P0_ k_ ∨ w.heap.size ≤ k_) ∧ some k_ ≠ (.slice (some ad199) x7_3.length co55 : Value).ownBlock)) _ _ x0_2 (rd x7_3 (ji35)) t200 false _ ?side1 A38.out).mono ?_); (case side1 => exact HO_0.out); rintro e w56 ⟨v201, rfl, ho0, hb⟩; refine ⟨_, rfl, ?_⟩; have n0_ := Aside0.mk (Kd.V_elder' (by (with_reducible repeat (first | apply Kd.V_alloc | apply Kd.V_drewN | apply Kd.V_drew)); exact HO_0.out) (Kd.R_base ho0) hb); have n1_ := Aside0.mk (Kd.R_below (by (with_reducible repeat (first | apply Kd.R_alloc | apply Kd.R_drewN | apply Kd.R_drew)); exact HO_7.out) hb); have n2_ := Aside0.mk (Kd.V_elder' (by (with_reducible repeat (first | apply Kd.V_alloc | apply Kd.V_drewN | apply Kd.V_drew)); exact HO_29.out) (Kd.R_base ho0) hb); have n3_ := Aside0.mk (Kd.R_lower (Kd.R_newM (M := fun k_ => (w.heap.size ≤ k_)) (Kd.R_mono (ok' := fun k_ => True) ho0 (fun _ hk_ => trivial)) (below_size (by repeat (first | (with_reducible first | exact HB.out | apply below_alloc | apply pw_below_drewN | apply below_drew1) | exact HB.out))) (fun k_ h_ => h_)) (below_size (by repeat (first | (with_reducible first | exact HB.out | apply below_alloc | apply pw_below_drewN | apply below_drew1) | exact HB.out)))); have n4_ := Aside0.mk (below_step (by repeat (first | (with_reducible first | exact HB.out | apply below_alloc | apply pw_below_drewN | apply below_drew1) | exact HB.out)) hb); clear HO_0; clear HO_7; clear HO_29; clear HB; have HO_0 := n0_; have HO_7 := n1_; have HO_29 := n2_; have HO202 := n3_; have HB := n4_; clear n0_ n1_ n2_ n3_ n4_; (try clear hb); (try clear hb2); (try clear hk); (try clear hi); (try clear ho0)))
                              go_ret
                              exact ⟨by first | rfl | (simp [errW_none, errW_some] <;> rfl) | (simp only [← hji35]; first | rfl | (simp [errW_none, errW_some] <;> rfl)) | (simp [*, errW_none, errW_some] <;> rfl), by repeat (first | (with_reducible first | exact HB.out | apply below_alloc | apply pw_below_drewN | apply below_drew1) | exact HB.out)⟩
                          · rw [if_neg c37] at H
                            exact absurd H (by simp)
                        · rw [if_neg c36] at H
                          exact absurd H (by simp)
            · rw [if_neg c12] at H
              have c12b0 : decide (x27_2 < 100) = false := decide_eq_false c12
              clear c12
              by_cases c57 : (x0_2.length : Int) = 1
              · rw [if_pos c57] at H
                have c57b0 : ((x0_2.length : Int) == 1) = true := beq_iff_eq.mpr c57
                have c57b1 : ((x0_2.length : Int) != 1) = false := bne_eq_false_iff_eq.mpr c57
                clear c57
                by_cases c58 : 0 < (x0_2.length : Int)
                · rw [if_pos c58] at H
                  have c58b0 : decide (0 < (x0_2.length : Int)) = true := decide_eq_true c58
                  have c58b1 : decide (0 < x0_2.length) = true := decide_eq_true (by omega)
                  clear c58
                  by_cases c59 : (((rd_T35 x0_2 0).f0) == 0 && (((rd_T35 x0_2 0).f1) == a1 && (!((rd_T35 x0_2 0).f2)))) = true
                  · rw [if_pos c59] at H
                    have c59b0 : (((rd_T35 x0_2 0).f0) == 0 && (((rd_T35 x0_2 0).f1) == a1 && (!((rd_T35 x0_2 0).f2)))) = true := c59
                    (try (have c59b1 : decide (((rd_T35 x0_2 0).f0) = 0 && (((rd_T35 x0_2 0).f1) == a1 && (!((rd_T35 x0_2 0).f2)))) = true := by simpa using c59))
                    (try (have c59b2 : (((rd_T35 x0_2 0).f0) == 0 && (((rd_T35 x0_2 0).f1) == a1 && (!((rd_T35 x0_2 0).f2)))) = true := by simpa using c59))
                    clear c59
                    replace H := Option.bind_eq_some_iff.mp H
                    obtain ⟨t191, A600, H⟩ := H
                    replace H : (some t191) = some r := H
                    have A60 := Aside0.mk A600
                    clear A600
                    obtain rfl := Option.some.inj H
                    obtain ⟨Ao61, co61, eo61⟩ := Kd.V_slice HO_0.out
                    subst eo61
                    have p190 : 0 ≤ (0 : Int) := (by omega)
                    have q190 : 0 < (x0_2.length : Int) := of_decide_eq_true (by first | (with_reducible assumption) | assumption)
                    obtain ⟨ad190, e190, hx190_0, hx190_1, hx190_2⟩ := at_T35 (Kd.V_reads' HO_0.out).2.2 0 p190 q190
                    cases e190
                    have qi190 : (0 < x0_2.length) = True := eq_true (by omega)
                    (try rw [show ((0 : Int)).toNat = 0 from rfl] at hx190_0)
                    (try rw [show 0 * 3 = 0 from rfl] at hx190_0)
                    (try rw [Addr.add_zero'] at hx190_0)
                    (try rw [show ((0 : Int)).toNat = 0 from rfl] at hx190_1)
                    (try rw [show 0 * 3 = 0 from rfl] at hx190_1)
                    (try rw [Addr.add_zero'] at hx190_1)
                    (try rw [show ((0 : Int)).toNat = 0 from rfl] at hx190_2)
                    (try rw [show 0 * 3 = 0 from rfl] at hx190_2)
                    (try rw [Addr.add_zero'] at hx190_2)
                    replace p190 := eq_true p190
                    replace q190 := eq_true q190
                    go_wp2_with (first | (go_at_call 15; (with_reducible refine (darninglaw17_awake.calls k2  t191 _ A60.out).mono ?_); rintro e w62 ⟨rfl, hb⟩; have n0_ := Aside0.mk (Kd.V_below (by (with_reducible repeat (first | apply Kd.V_alloc | apply Kd.V_drewN | apply Kd.V_drew)); exact HO_0.out) hb); have n1_ := Aside0.mk (below_step (by repeat (first | (with_reducible first | exact HB.out | apply below_alloc | apply pw_below_drewN | apply below_drew1) | exact HB.out)) hb); clear HO_0; clear HB; have HO_0 := n0_; have HB := n1_; clear n0_ n1_; (try clear hb); (try clear hb2); (try clear hk); (try clear hi)))
                    go_ret
                    exact ⟨by first | rfl | (simp [errW_none, errW_some] <;> rfl) | (simp [*, errW_none, errW_some] <;> rfl), by repeat (first | (with_reducible first | exact HB.out | apply below_alloc | apply pw_below_drewN | apply below_drew1) | exact HB.out)⟩
                  · rw [if_neg c59] at H
                    have c59b0 : (((rd_T35 x0_2 0).f0) == 0 && (((rd_T35 x0_2 0).f1) == a1 && (!((rd_T35 x0_2 0).f2)))) = false := by simpa using c59
                    (try (have c59b1 : decide (((rd_T35 x0_2 0).f0) = 0 && (((rd_T35 x0_2 0).f1) == a1 && (!((rd_T35 x0_2 0).f2)))) = false := by simpa using c59))
                    (try (have c59b2 : (((rd_T35 x0_2 0).f0) == 0 && (((rd_T35 x0_2 0).f1) == a1 && (!((rd_T35 x0_2 0).f2)))) = false := by simpa using c59))
                    (try (have c59b3 : ¬ (((rd_T35 x0_2 0).f0) = 0 && (((rd_T35 x0_2 0).f1) == a1 && (!((rd_T35 x0_2 0).f2)))) := by simpa using c59))
                    clear c59
                    obtain rfl := Option.some.inj H
                    obtain ⟨Ao63, co63, eo63⟩ := Kd.V_slice HO_0.out
                    subst eo63
                    have p190 : 0 ≤ (0 : Int) := (by omega)
                    have q190 : 0 < (x0_2.length : Int) := of_decide_eq_true (by first | (with_reducible assumption) | assumption)
                    obtain ⟨ad190, e190, hx190_0, hx190_1, hx190_2⟩ := at_T35 (Kd.V_reads' HO_0.out).2.2 0 p190 q190
                    cases e190
                    have qi190 : (0 < x0_2.length) = True := eq_true (by omega)
                    (try rw [show ((0 : Int)).toNat = 0 from rfl] at hx190_0)
                    (try rw [show 0 * 3 = 0 from rfl] at hx190_0)
                    (try rw [Addr.add_zero'] at hx190_0)
                    (try rw [show ((0 : Int)).toNat = 0 from rfl] at hx190_1)
                    (try rw [show 0 * 3 = 0 from rfl] at hx190_1)
                    (try rw [Addr.add_zero'] at hx190_1)
                    (try rw [show ((0 : Int)).toNat = 0 from rfl] at hx190_2)
                    (try rw [show 0 * 3 = 0 from rfl] at hx190_2)
                    (try rw [Addr.add_zero'] at hx190_2)
                    replace p190 := eq_true p190
                    replace q190 := eq_true q190
                    go_wp2
                    go_ret
                    exact ⟨by first | rfl | (simp [errW_none, errW_some] <;> rfl) | (simp [*, errW_none, errW_some] <;> rfl), by repeat (first | (with_reducible first | exact HB.out | apply below_alloc | apply pw_below_drewN | apply below_drew1) | exact HB.out)⟩
                · rw [if_neg c58] at H
                  exact absurd H (by simp)
              · rw [if_neg c57] at H
                have c57b0 : ((x0_2.length : Int) == 1) = false := beq_eq_false_iff_ne.mpr c57
                have c57b1 : ((x0_2.length : Int) != 1) = true := bne_iff_ne.mpr c57
                obtain rfl := Option.some.inj H
                obtain ⟨Ao64, co64, eo64⟩ := Kd.V_slice HO_0.out
                subst eo64
                go_wp2
                go_ret
                exact ⟨by first | rfl | (simp [errW_none, errW_some] <;> rfl) | (simp [*, errW_none, errW_some] <;> rfl), by repeat (first | (with_reducible first | exact HB.out | apply below_alloc | apply pw_below_drewN | apply below_drew1) | exact HB.out)⟩
/-- What a value of type 35 that is read fits. -/
def wfT35 (x : S35) : Prop := (Lit.int .i64 x.f0).wf = true ∧ (Lit.int .i64 x.f1).wf = true ∧ True

/-- THE ONE PURE STATEMENT of darninglaw17_MergeAll. -/
def darninglaw17_MergeAll.Pure : Prop := ∀ (l0 : List (S35)) (a1 : Int) (a2 : Int), l0.length ≤ maxLen → l0.length * 24 ≤ 140737488351232 → (∀ x ∈ l0, wfT35 x) → (Lit.int .i64 a1).wf = true → (Lit.int .i64 a2).wf = true → ∃ k, darninglaw17_MergeAll.f k l0 a1 a2 = some true
theorem darninglaw17_MergeAll.walk (P : darninglaw17_MergeAll.Pure) (A0 : Option Addr) (c0 : Nat) (l0 : List (S35)) (a1 : Int) (a2 : Int) (w : World) (hr0 : Kd.C k35 w A0 l0.length l0) (hc0 : l0.length ≤ c0) (hm0 : l0.length ≤ maxLen) (y0 : l0.length * 24 ≤ 140737488351232) (hw0 : (∀ x ∈ l0, wfT35 x)) (w1 : (Lit.int .i64 a1).wf = true) (w2 : (Lit.int .i64 a2).wf = true) :
    Calls Try.prog 4 #[.slice A0 l0.length c0, .int .i64 a1, .int .i64 a2] w fun e w' => e = .returned (.bool true) ∧ Below w.heap.size w w' := by
  obtain ⟨k, h⟩ := P l0 a1 a2 hm0 y0 hw0 w1 w2
  refine (darninglaw17_MergeAll.calls k (fun k_ => k_ < w.heap.size) A0 c0 l0 a1 a2 true w (Kd.V_mk hc0 (Kd.C_F k35_heap hr0)) h).mono ?_
  rintro e w' ⟨rfl, hd⟩
  exact ⟨rfl, hd⟩

end Go.Proofs.Ytglekonhdjploaa.XMergeAll
