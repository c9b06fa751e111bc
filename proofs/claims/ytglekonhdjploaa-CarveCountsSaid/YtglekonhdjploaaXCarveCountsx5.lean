-- Laid by this session's own printer (wip/xprint.py): each Go function that the law reaches as a plain Lean function, and that the call comes to it.
import Derived.Test.YtglekonhdjploaaXCarveCountsx0
import Derived.Test.YtglekonhdjploaaXCarveCountsx1
import Derived.Test.YtglekonhdjploaaXCarveCountsx3
import Derived.Test.YtglekonhdjploaaXCarveCountsx4
namespace Go.Proofs.Ytglekonhdjploaa.XCarveCounts
open Go.RowKit Go.Proofs.YtglekonhdjploaaW.PrintWords Go.Proofs.YtglekonhdjploaaW.PrintLast Go.Proofs.YtglekonhdjploaaW.PrintMore
attribute [local go_sem] max2_int min2_int max_two min_two max_three min_three max_four min_four   -- for this text's walks alone
set_option linter.unusedVariables false
set_option linter.unusedSimpArgs false

/-! ### darninglaw16_CarveCounts: function 7 -/
mutual
def darninglaw16_CarveCounts.j0 : Nat → List (S35) → Int → Int → Int → Bool → Option (Bool)
  | 0, _, _, _, _, _ => none
  | k + 1, x0, x1, x2, x3, x26 => if x26 = true then ((darninglaw16_awake.f k).bind fun t196 => (some t196)) else (if (IntKind.u64.wrap ((x0.length : Int))) = 0 then (none) else ((carve_Blocks.f k x0 (wrap64 (Int.tmod (IntKind.u64.wrap (x2)) (IntKind.u64.wrap ((x0.length : Int))))) (wrap64 (2 + (wrap64 (Int.tmod (IntKind.u64.wrap (x3)) 60))))).bind fun bt197 => (if bt197.2 = true then (if 0 ≤ (wrap64 (Int.tmod (IntKind.u64.wrap (x2)) (IntKind.u64.wrap ((x0.length : Int))))) then (if (wrap64 (Int.tmod (IntKind.u64.wrap (x2)) (IntKind.u64.wrap ((x0.length : Int))))) < (x0.length : Int) then ((darningref4_Takes.f k ((rd_T35 x0 (wrap64 (Int.tmod (IntKind.u64.wrap (x2)) (IntKind.u64.wrap ((x0.length : Int)))))).f1) (wrap64 (2 + (wrap64 (Int.tmod (IntKind.u64.wrap (x3)) 60))))).bind fun t206 => (if t206 < ((rd_T35 x0 (wrap64 (Int.tmod (IntKind.u64.wrap (x2)) (IntKind.u64.wrap ((x0.length : Int)))))).f1) then (darninglaw16_CarveCounts.j1 k x0 x1 (wrap64 (Int.tmod (IntKind.u64.wrap (x2)) (IntKind.u64.wrap ((x0.length : Int))))) bt197.1 t206 1) else (darninglaw16_CarveCounts.j1 k x0 x1 (wrap64 (Int.tmod (IntKind.u64.wrap (x2)) (IntKind.u64.wrap ((x0.length : Int))))) bt197.1 t206 0))) else (none)) else (none)) else (if 0 ≤ (wrap64 (Int.tmod (IntKind.u64.wrap (x2)) (IntKind.u64.wrap ((x0.length : Int))))) then (if (wrap64 (Int.tmod (IntKind.u64.wrap (x2)) (IntKind.u64.wrap ((x0.length : Int))))) < (x0.length : Int) then (if (rd_T35 x0 (wrap64 (Int.tmod (IntKind.u64.wrap (x2)) (IntKind.u64.wrap ((x0.length : Int)))))).f2 = true then ((darninglaw16_awake.f k).bind fun t202 => (some t202)) else (if ((rd_T35 x0 (wrap64 (Int.tmod (IntKind.u64.wrap (x2)) (IntKind.u64.wrap ((x0.length : Int)))))).f1) < (wrap64 (2 + (wrap64 (Int.tmod (IntKind.u64.wrap (x3)) 60)))) then ((darninglaw16_awake.f k).bind fun t204 => (some t204)) else (some false))) else (none)) else (none)))))
def darninglaw16_CarveCounts.j1 : Nat → List (S35) → Int → Int → List (S35) → Int → Int → Option (Bool)
  | 0, _, _, _, _, _, _ => none
  | k + 1, x0, x1, x2, x9, x11, x12 => (darningref4_MayBlocks.f k x9 x1).bind fun t208 => (if t208 = true then (if (x9.length : Int) = (wrap64 ((x0.length : Int) + x12)) then (if 0 ≤ x2 then (if x2 < (x9.length : Int) then (if ((rd_T35 x9 x2).f1) = x11 then ((darningref4_FreeWords.f k x9).bind fun t210 => ((darningref4_FreeWords.f k x0).bind fun t211 => (if t210 = (wrap64 (t211 - x11)) then ((darninglaw16_awake.f k).bind fun t212 => (some t212)) else (some false)))) else (some false)) else (none)) else (none)) else (some false)) else (some false))
end
def darninglaw16_CarveCounts.f (k : Nat) (l0 : List (S35)) (a1 : Int) (a2 : Int) (a3 : Int) : Option (Bool) := if (l0.length : Int) > 300 then (darninglaw16_CarveCounts.j0 k l0 a1 a2 a3 true) else (if (l0.length : Int) = 0 then (darninglaw16_CarveCounts.j0 k l0 a1 a2 a3 true) else ((darningref4_MayBlocks.f k l0 a1).bind fun t195 => (darninglaw16_CarveCounts.j0 k l0 a1 a2 a3 (!t195))))
theorem darninglaw16_CarveCounts.mono_l : ∀ k, (∀ y0 y1 y2 y3 y4, LeO (darninglaw16_CarveCounts.j0 k y0 y1 y2 y3 y4) (darninglaw16_CarveCounts.j0 (k + 1) y0 y1 y2 y3 y4)) ∧ (∀ y0 y1 y2 y3 y4 y5, LeO (darninglaw16_CarveCounts.j1 k y0 y1 y2 y3 y4 y5) (darninglaw16_CarveCounts.j1 (k + 1) y0 y1 y2 y3 y4 y5))
  | 0 => ⟨fun _ _ _ _ _ r h => by simp [darninglaw16_CarveCounts.j0] at h, fun _ _ _ _ _ _ r h => by simp [darninglaw16_CarveCounts.j1] at h⟩
  | k + 1 => by
    obtain ⟨ih0, ih1⟩ := darninglaw16_CarveCounts.mono_l k
    refine ⟨?_, ?_⟩
    · intro y0 y1 y2 y3 y4
      unfold darninglaw16_CarveCounts.j0
      repeat' first
      | (with_reducible exact ih0 _ _ _ _ _)
      | (with_reducible exact ih1 _ _ _ _ _ _)
      | (with_reducible exact carve_Blocks.mono _ _ _ _)
      | (with_reducible exact darninglaw16_awake.mono _)
      | (with_reducible exact darningref4_FreeWords.mono _ _)
      | (with_reducible exact darningref4_MayBlocks.mono _ _ _)
      | (with_reducible exact darningref4_Takes.mono _ _ _)
      | (with_reducible exact LeO.refl _)
      | (with_reducible exact LeO.none _)
      | (with_reducible refine LeO.ite ?_ ?_)
      | (with_reducible refine LeO.bind ?_ (fun _ => ?_))
      | exact ih0 _ _ _ _ _
      | exact ih1 _ _ _ _ _ _
      | exact carve_Blocks.mono _ _ _ _
      | exact darninglaw16_awake.mono _
      | exact darningref4_FreeWords.mono _ _
      | exact darningref4_MayBlocks.mono _ _ _
      | exact darningref4_Takes.mono _ _ _
      | exact LeO.none _
      | refine LeO.ite ?_ ?_
      | refine LeO.bind ?_ (fun _ => ?_)
    · intro y0 y1 y2 y3 y4 y5
      unfold darninglaw16_CarveCounts.j1
      repeat' first
      | (with_reducible exact ih0 _ _ _ _ _)
      | (with_reducible exact ih1 _ _ _ _ _ _)
      | (with_reducible exact carve_Blocks.mono _ _ _ _)
      | (with_reducible exact darninglaw16_awake.mono _)
      | (with_reducible exact darningref4_FreeWords.mono _ _)
      | (with_reducible exact darningref4_MayBlocks.mono _ _ _)
      | (with_reducible exact darningref4_Takes.mono _ _ _)
      | (with_reducible exact LeO.refl _)
      | (with_reducible exact LeO.none _)
      | (with_reducible refine LeO.ite ?_ ?_)
      | (with_reducible refine LeO.bind ?_ (fun _ => ?_))
      | exact ih0 _ _ _ _ _
      | exact ih1 _ _ _ _ _ _
      | exact carve_Blocks.mono _ _ _ _
      | exact darninglaw16_awake.mono _
      | exact darningref4_FreeWords.mono _ _
      | exact darningref4_MayBlocks.mono _ _ _
      | exact darningref4_Takes.mono _ _ _
      | exact LeO.none _
      | refine LeO.ite ?_ ?_
      | refine LeO.bind ?_ (fun _ => ?_)
theorem darninglaw16_CarveCounts.mono : ∀ a0 a1 a2 a3 k, LeO (darninglaw16_CarveCounts.f k a0 a1 a2 a3) (darninglaw16_CarveCounts.f (k + 1) a0 a1 a2 a3) := by
  intro a0 a1 a2 a3 k
  obtain ⟨ih0, ih1⟩ := darninglaw16_CarveCounts.mono_l k
  unfold darninglaw16_CarveCounts.f
  repeat' first
      | (with_reducible exact ih0 _ _ _ _ _)
      | (with_reducible exact ih1 _ _ _ _ _ _)
      | (with_reducible exact carve_Blocks.mono _ _ _ _)
      | (with_reducible exact darninglaw16_awake.mono _)
      | (with_reducible exact darningref4_FreeWords.mono _ _)
      | (with_reducible exact darningref4_MayBlocks.mono _ _ _)
      | (with_reducible exact darningref4_Takes.mono _ _ _)
      | (with_reducible exact LeO.refl _)
      | (with_reducible exact LeO.none _)
      | (with_reducible refine LeO.ite ?_ ?_)
      | (with_reducible refine LeO.bind ?_ (fun _ => ?_))
      | exact ih0 _ _ _ _ _
      | exact ih1 _ _ _ _ _ _
      | exact carve_Blocks.mono _ _ _ _
      | exact darninglaw16_awake.mono _
      | exact darningref4_FreeWords.mono _ _
      | exact darningref4_MayBlocks.mono _ _ _
      | exact darningref4_Takes.mono _ _ _
      | exact LeO.none _
      | refine LeO.ite ?_ ?_
      | refine LeO.bind ?_ (fun _ => ?_)
set_option maxHeartbeats 8000000 in
set_option maxRecDepth 100000 in
theorem darninglaw16_CarveCounts.calls (k : Nat) (A0 : Option Addr) (c0 : Nat) (l0 : List (S35)) (a1 : Int) (a2 : Int) (a3 : Int) (r : Bool) (w : World) (hr0 : Kd.C k35 w A0 l0.length l0) (hc0 : l0.length ≤ c0) (h : darninglaw16_CarveCounts.f k l0 a1 a2 a3 = some r) :
    Calls Try.prog 7 #[.slice A0 l0.length c0, .int .i64 a1, .int .i64 a2, .int .i64 a3] w fun e w' => e = .returned (.bool r) ∧ Below w.heap.size w w' := by
  have HR0 := Aside0.mk hr0
  have HC0 := Aside0.mk hc0
  clear hr0 hc0
  have HB := Aside0.mk (Below.refl w.heap.size w)
  have H : (if (l0.length : Int) > 300 then (darninglaw16_CarveCounts.j0 k l0 a1 a2 a3 true) else (if (l0.length : Int) = 0 then (darninglaw16_CarveCounts.j0 k l0 a1 a2 a3 true) else ((darningref4_MayBlocks.f k l0 a1).bind fun t195 => (darninglaw16_CarveCounts.j0 k l0 a1 a2 a3 (!t195))))) = some r := h
  clear h
  have HC5 := Aside0.mk H
  clear H
  go_enter Try.func7, Try.ntmps7
  go_upto_region 1 with (fail)
  go_cut [26] (fun v26 wc => ∃ (kq : Nat) (x26_4 : Bool), v26 = .bool x26_4 ∧ Aside0 (darninglaw16_CarveCounts.j0 kq l0 a1 a2 a3 x26_4 = some r) ∧ Aside0 (kq ≤ k) ∧ Aside0 (Below w.heap.size w wc))
  case first =>
    have H := HC5.out
    clear HC5
    by_cases c6 : (l0.length : Int) > 300
    · rw [if_pos c6] at H
      have c6b0 : decide (300 < (l0.length : Int)) = true := decide_eq_true c6
      have c6b1 : decide (300 < l0.length) = true := decide_eq_true (by omega)
      clear c6
      (first | rw [c6b0] | (simp only [i64_w, i32_w]; rw [c6b0]) | skip)
      have H' := Aside0.mk H
      clear H
      go_wp2
      go_meet
      case rel => exact ⟨_, (true), (by first | rfl | (simp; done) | (simp [*]; done)), H', ⟨by first | omega | exact Nat.le_refl _⟩, ⟨by repeat (first | (with_reducible first | exact HB.out | apply below_alloc | apply pw_below_drewN | apply below_drew1) | exact HB.out)⟩⟩
    · rw [if_neg c6] at H
      have c6b0 : decide (300 < (l0.length : Int)) = false := decide_eq_false c6
      have c6b1 : decide (300 < l0.length) = false := decide_eq_false (by omega)
      clear c6
      (first | rw [c6b0] | (simp only [i64_w, i32_w]; rw [c6b0]) | skip)
      by_cases c7 : (l0.length : Int) = 0
      · rw [if_pos c7] at H
        have c7b0 : ((l0.length : Int) == 0) = true := beq_iff_eq.mpr c7
        have c7b1 : ((l0.length : Int) != 0) = false := bne_eq_false_iff_eq.mpr c7
        clear c7
        have H' := Aside0.mk H
        clear H
        go_wp2
        go_meet
        case rel => exact ⟨_, (true), (by first | rfl | (simp; done) | (simp [*]; done)), H', ⟨by first | omega | exact Nat.le_refl _⟩, ⟨by repeat (first | (with_reducible first | exact HB.out | apply below_alloc | apply pw_below_drewN | apply below_drew1) | exact HB.out)⟩⟩
      · rw [if_neg c7] at H
        have c7b0 : ((l0.length : Int) == 0) = false := beq_eq_false_iff_ne.mpr c7
        have c7b1 : ((l0.length : Int) != 0) = true := bne_iff_ne.mpr c7
        have c7b2 : ¬ (l0 = []) := fun h_ => c7 (by rw [h_]; rfl)
        replace H := Option.bind_eq_some_iff.mp H
        obtain ⟨t195, A80, H⟩ := H
        replace H : (darninglaw16_CarveCounts.j0 k l0 a1 a2 a3 (!t195)) = some r := H
        have A8 := Aside0.mk A80
        clear A80
        have H' := Aside0.mk H
        clear H
        go_wp2_with (first | (go_at_call 21; (with_reducible refine (darningref4_MayBlocks.calls k _ _ l0 a1 t195 _ ?side1 ?side2 A8.out).mono ?_); (case side1 => repeat (first | exact (Kd.C_below HR0.out HB.out) | (with_reducible refine Kd.C_alloc ?_ _) | (with_reducible refine Kd.C_drewN ?_ _) | (with_reducible refine Kd.C_drew ?_))); (case side2 => exact HC0.out); rintro e w9 ⟨rfl, hb⟩; have n0_ := Aside0.mk (below_step (by repeat (first | (with_reducible first | exact HB.out | apply below_alloc | apply pw_below_drewN | apply below_drew1) | exact HB.out)) hb); clear HB; have HB := n0_; clear n0_; (try clear hb); (try clear hb2); (try clear hk); (try clear hi)))
        go_meet
        case rel => exact ⟨_, (!t195), (by first | rfl | (simp; done) | (simp [*]; done)), H', ⟨by first | omega | exact Nat.le_refl _⟩, ⟨by repeat (first | (with_reducible first | exact HB.out | apply below_alloc | apply pw_below_drewN | apply below_drew1) | exact HB.out)⟩⟩
  case rest =>
    clear HC5
    try clear p2
    try clear c6
    try clear c6b0
    try clear c6b1
    try clear c7
    try clear c7b0
    try clear c7b1
    try clear c7b2
    obtain ⟨kq, x26_4, rfl, HA, HJ4, HB⟩ := hcut
    cases kq with
    | zero => exact absurd HA.out (by simp [darninglaw16_CarveCounts.j0])
    | succ kj4 =>
      have H := HA.out
      clear HA
      simp only [darninglaw16_CarveCounts.j0] at H
      by_cases c10 : x26_4 = true
      · subst c10
        have H1 : ((darninglaw16_awake.f kj4).bind fun t196 => (some t196)) = some r := by rw [if_pos rfl] at H; exact H
        clear H
        have H := H1
        clear H1
        replace H := Option.bind_eq_some_iff.mp H
        obtain ⟨t196, A110, H⟩ := H
        replace H : (some t196) = some r := H
        have A11 := Aside0.mk A110
        clear A110
        obtain rfl := Option.some.inj H
        go_wp2_with (first | ((with_reducible refine gate_callee (f := 22) rfl ?_); refine goesL_ (some 27) rfl rfl Try.func22 (by kernel_rfl) rfl #[] rfl (by (try simp only [List.map_toArray, List.map_cons, List.map_nil]); first | done | rfl | (simp only [List.length_drop, List.length_take]; rfl)) ?_; (with_reducible refine (darninglaw16_awake.calls kj4  t196 _ A11.out).mono ?_); rintro e w12 ⟨rfl, hb⟩; refine ⟨_, rfl, ?_⟩; have n0_ := Aside0.mk (below_step (by repeat (first | (with_reducible first | exact HB.out | apply below_alloc | apply pw_below_drewN | apply below_drew1) | exact HB.out)) hb); clear HB; have HB := n0_; clear n0_; (try clear hb); (try clear hb2); (try clear hk); (try clear hi)))
        go_ret
        exact ⟨by first | rfl | (simp [errW_none, errW_some] <;> rfl) | (simp [*, errW_none, errW_some] <;> rfl), by repeat (first | (with_reducible first | exact HB.out | apply below_alloc | apply pw_below_drewN | apply below_drew1) | exact HB.out)⟩
      · replace c10 := Bool.eq_false_iff.mpr c10
        subst c10
        have H1 : (if (IntKind.u64.wrap ((l0.length : Int))) = 0 then (none) else ((carve_Blocks.f kj4 l0 (wrap64 (Int.tmod (IntKind.u64.wrap (a2)) (IntKind.u64.wrap ((l0.length : Int))))) (wrap64 (2 + (wrap64 (Int.tmod (IntKind.u64.wrap (a3)) 60))))).bind fun bt197 => (if bt197.2 = true then (if 0 ≤ (wrap64 (Int.tmod (IntKind.u64.wrap (a2)) (IntKind.u64.wrap ((l0.length : Int))))) then (if (wrap64 (Int.tmod (IntKind.u64.wrap (a2)) (IntKind.u64.wrap ((l0.length : Int))))) < (l0.length : Int) then ((darningref4_Takes.f kj4 ((rd_T35 l0 (wrap64 (Int.tmod (IntKind.u64.wrap (a2)) (IntKind.u64.wrap ((l0.length : Int)))))).f1) (wrap64 (2 + (wrap64 (Int.tmod (IntKind.u64.wrap (a3)) 60))))).bind fun t206 => (if t206 < ((rd_T35 l0 (wrap64 (Int.tmod (IntKind.u64.wrap (a2)) (IntKind.u64.wrap ((l0.length : Int)))))).f1) then (darninglaw16_CarveCounts.j1 kj4 l0 a1 (wrap64 (Int.tmod (IntKind.u64.wrap (a2)) (IntKind.u64.wrap ((l0.length : Int))))) bt197.1 t206 1) else (darninglaw16_CarveCounts.j1 kj4 l0 a1 (wrap64 (Int.tmod (IntKind.u64.wrap (a2)) (IntKind.u64.wrap ((l0.length : Int))))) bt197.1 t206 0))) else (none)) else (none)) else (if 0 ≤ (wrap64 (Int.tmod (IntKind.u64.wrap (a2)) (IntKind.u64.wrap ((l0.length : Int))))) then (if (wrap64 (Int.tmod (IntKind.u64.wrap (a2)) (IntKind.u64.wrap ((l0.length : Int))))) < (l0.length : Int) then (if (rd_T35 l0 (wrap64 (Int.tmod (IntKind.u64.wrap (a2)) (IntKind.u64.wrap ((l0.length : Int)))))).f2 = true then ((darninglaw16_awake.f kj4).bind fun t202 => (some t202)) else (if ((rd_T35 l0 (wrap64 (Int.tmod (IntKind.u64.wrap (a2)) (IntKind.u64.wrap ((l0.length : Int)))))).f1) < (wrap64 (2 + (wrap64 (Int.tmod (IntKind.u64.wrap (a3)) 60)))) then ((darninglaw16_awake.f kj4).bind fun t204 => (some t204)) else (some false))) else (none)) else (none))))) = some r := by rw [if_neg (show ¬ (false = true) by decide)] at H; exact H
        clear H
        have H := H1
        clear H1
        by_cases c13 : (IntKind.u64.wrap ((l0.length : Int))) = 0
        · rw [if_pos c13] at H
          exact absurd H (by simp)
        · rw [if_neg c13] at H
          have c13b0 : ((IntKind.u64.wrap ((l0.length : Int))) == 0) = false := beq_eq_false_iff_ne.mpr c13
          have c13b1 : ((IntKind.u64.wrap ((l0.length : Int))) != 0) = true := bne_iff_ne.mpr c13
          replace H := Option.bind_eq_some_iff.mp H
          obtain ⟨⟨t197, t200⟩, A140, H⟩ := H
          replace H : (if t200 = true then (if 0 ≤ (wrap64 (Int.tmod (IntKind.u64.wrap (a2)) (IntKind.u64.wrap ((l0.length : Int))))) then (if (wrap64 (Int.tmod (IntKind.u64.wrap (a2)) (IntKind.u64.wrap ((l0.length : Int))))) < (l0.length : Int) then ((darningref4_Takes.f kj4 ((rd_T35 l0 (wrap64 (Int.tmod (IntKind.u64.wrap (a2)) (IntKind.u64.wrap ((l0.length : Int)))))).f1) (wrap64 (2 + (wrap64 (Int.tmod (IntKind.u64.wrap (a3)) 60))))).bind fun t206 => (if t206 < ((rd_T35 l0 (wrap64 (Int.tmod (IntKind.u64.wrap (a2)) (IntKind.u64.wrap ((l0.length : Int)))))).f1) then (darninglaw16_CarveCounts.j1 kj4 l0 a1 (wrap64 (Int.tmod (IntKind.u64.wrap (a2)) (IntKind.u64.wrap ((l0.length : Int))))) t197 t206 1) else (darninglaw16_CarveCounts.j1 kj4 l0 a1 (wrap64 (Int.tmod (IntKind.u64.wrap (a2)) (IntKind.u64.wrap ((l0.length : Int))))) t197 t206 0))) else (none)) else (none)) else (if 0 ≤ (wrap64 (Int.tmod (IntKind.u64.wrap (a2)) (IntKind.u64.wrap ((l0.length : Int))))) then (if (wrap64 (Int.tmod (IntKind.u64.wrap (a2)) (IntKind.u64.wrap ((l0.length : Int))))) < (l0.length : Int) then (if (rd_T35 l0 (wrap64 (Int.tmod (IntKind.u64.wrap (a2)) (IntKind.u64.wrap ((l0.length : Int)))))).f2 = true then ((darninglaw16_awake.f kj4).bind fun t202 => (some t202)) else (if ((rd_T35 l0 (wrap64 (Int.tmod (IntKind.u64.wrap (a2)) (IntKind.u64.wrap ((l0.length : Int)))))).f1) < (wrap64 (2 + (wrap64 (Int.tmod (IntKind.u64.wrap (a3)) 60)))) then ((darninglaw16_awake.f kj4).bind fun t204 => (some t204)) else (some false))) else (none)) else (none))) = some r := H
          have A14 := Aside0.mk A140
          clear A140
          by_cases c15 : t200 = true
          · subst c15
            have H1 : (if 0 ≤ (wrap64 (Int.tmod (IntKind.u64.wrap (a2)) (IntKind.u64.wrap ((l0.length : Int))))) then (if (wrap64 (Int.tmod (IntKind.u64.wrap (a2)) (IntKind.u64.wrap ((l0.length : Int))))) < (l0.length : Int) then ((darningref4_Takes.f kj4 ((rd_T35 l0 (wrap64 (Int.tmod (IntKind.u64.wrap (a2)) (IntKind.u64.wrap ((l0.length : Int)))))).f1) (wrap64 (2 + (wrap64 (Int.tmod (IntKind.u64.wrap (a3)) 60))))).bind fun t206 => (if t206 < ((rd_T35 l0 (wrap64 (Int.tmod (IntKind.u64.wrap (a2)) (IntKind.u64.wrap ((l0.length : Int)))))).f1) then (darninglaw16_CarveCounts.j1 kj4 l0 a1 (wrap64 (Int.tmod (IntKind.u64.wrap (a2)) (IntKind.u64.wrap ((l0.length : Int))))) t197 t206 1) else (darninglaw16_CarveCounts.j1 kj4 l0 a1 (wrap64 (Int.tmod (IntKind.u64.wrap (a2)) (IntKind.u64.wrap ((l0.length : Int))))) t197 t206 0))) else (none)) else (none)) = some r := by rw [if_pos rfl] at H; exact H
            clear H
            have H := H1
            clear H1
            obtain ⟨ji16, hji16⟩ : ∃ j_ : Int, (wrap64 (Int.tmod (IntKind.u64.wrap (a2)) (IntKind.u64.wrap ((l0.length : Int))))) = j_ := ⟨_, rfl⟩
            replace H : (if 0 ≤ (ji16) then (if (ji16) < (l0.length : Int) then ((darningref4_Takes.f kj4 ((rd_T35 l0 (ji16)).f1) (wrap64 (2 + (wrap64 (Int.tmod (IntKind.u64.wrap (a3)) 60))))).bind fun t206 => (if t206 < ((rd_T35 l0 (ji16)).f1) then (darninglaw16_CarveCounts.j1 kj4 l0 a1 ji16 t197 t206 1) else (darninglaw16_CarveCounts.j1 kj4 l0 a1 ji16 t197 t206 0))) else (none)) else (none)) = some r := by first | (rw [hji16] at H; exact H) | (simp only [hji16] at H ⊢; exact H)
            (try rw [hji16] at A14)
            have hji16w : (IntKind.i64.wrap (Int.tmod (IntKind.u64.wrap (a2)) (IntKind.u64.wrap ((l0.length : Int))))) = ji16 := (i64_w _).trans hji16
            by_cases c17 : 0 ≤ (ji16)
            · rw [if_pos c17] at H
              have c17b0 : decide (0 ≤ (ji16)) = true := decide_eq_true c17
              clear c17
              by_cases c18 : (ji16) < (l0.length : Int)
              · rw [if_pos c18] at H
                have c18b0 : decide ((ji16) < (l0.length : Int)) = true := decide_eq_true c18
                clear c18
                replace H := Option.bind_eq_some_iff.mp H
                obtain ⟨t206, A190, H⟩ := H
                replace H : (if t206 < ((rd_T35 l0 (ji16)).f1) then (darninglaw16_CarveCounts.j1 kj4 l0 a1 ji16 t197 t206 1) else (darninglaw16_CarveCounts.j1 kj4 l0 a1 ji16 t197 t206 0)) = some r := H
                have A19 := Aside0.mk A190
                clear A190
                have HC20 := Aside0.mk H
                clear H
                go_upto_if 79 with (first | ((with_reducible refine gate_callee (f := 23) rfl ?_); refine goesL_ (some 44) rfl rfl Try.func23 (by kernel_rfl) rfl #[.slice A0 l0.length c0, .int .i64 ji16, .int .i64 (wrap64 (2 + (wrap64 (Int.tmod (IntKind.u64.wrap (a3)) 60))))] rfl (by (try simp only [List.map_toArray, List.map_cons, List.map_nil]); first | done | (simp only [hji16]; rfl) | rfl | (simp only [List.length_drop, List.length_take]; rfl)) ?_; (with_reducible refine (carve_Blocks.calls kj4 (fun k_ => k_ < w.heap.size) _ _ l0 ji16 (wrap64 (2 + (wrap64 (Int.tmod (IntKind.u64.wrap (a3)) 60)))) t197 true _ ?side1 A14.out).mono ?_); (case side1 => exact Kd.V_mk HC0.out (Kd.F_below (Kd.C_F k35_heap HR0.out) (by repeat (first | (with_reducible first | exact HB.out | apply below_alloc | apply pw_below_drewN | apply below_drew1) | exact HB.out)))); rintro e w21 ⟨v198, rfl, ho0, hb⟩; refine ⟨_, rfl, ?_⟩; have n0_ := Aside0.mk (Kd.R_lower (Kd.R_mono (ok' := fun k_ => True) ho0 (fun _ hk_ => trivial)) (below_size (by repeat (first | (with_reducible first | exact HB.out | apply below_alloc | apply pw_below_drewN | apply below_drew1) | exact HB.out)))); have n1_ := Aside0.mk (below_step (by repeat (first | (with_reducible first | exact HB.out | apply below_alloc | apply pw_below_drewN | apply below_drew1) | exact HB.out)) hb); clear HB; have HO199 := n0_; have HB := n1_; clear n0_ n1_; (try clear hb); (try clear hb2); (try clear hk); (try clear hi); (try clear ho0); have p205 : 0 ≤ ((ji16) : Int) := of_decide_eq_true (by first | (with_reducible assumption) | assumption); have q205 : (ji16) < (l0.length : Int) := of_decide_eq_true (by first | (with_reducible assumption) | assumption); obtain ⟨ad205, e205, hx205_0, hx205_1, hx205_2⟩ := at_T35 HR0.out (ji16) p205 q205; cases e205; replace hx205_0 := (HB.out.cell (World.block_lt_of_cell? w _ hx205_0)).trans hx205_0; replace hx205_1 := (HB.out.cell (World.block_lt_of_cell? w _ hx205_1)).trans hx205_1; replace hx205_2 := (HB.out.cell (World.block_lt_of_cell? w _ hx205_2)).trans hx205_2; replace p205 := eq_true p205; replace q205 := eq_true q205) | ((with_reducible refine gate_callee (f := 30) rfl ?_); refine goesL_ (some 72) rfl rfl Try.func30 (by kernel_rfl) rfl #[.int .i64 ((rd_T35 l0 (ji16)).f1), .int .i64 (wrap64 (2 + (wrap64 (Int.tmod (IntKind.u64.wrap (a3)) 60))))] rfl (by (try simp only [List.map_toArray, List.map_cons, List.map_nil]); first | done | (simp only [hji16]; rfl) | rfl | (simp only [List.length_drop, List.length_take]; rfl)) ?_; (with_reducible refine (darningref4_Takes.calls kj4 ((rd_T35 l0 (ji16)).f1) (wrap64 (2 + (wrap64 (Int.tmod (IntKind.u64.wrap (a3)) 60)))) t206 _ A19.out).mono ?_); rintro e w' ⟨rfl, ⟨nd, rfl⟩⟩; refine ⟨_, rfl, ?_⟩; have p207 : 0 ≤ ((ji16) : Int) := of_decide_eq_true (by first | (with_reducible assumption) | assumption); have q207 : (ji16) < (l0.length : Int) := of_decide_eq_true (by first | (with_reducible assumption) | assumption); obtain ⟨ad207, e207, hx207_0, hx207_1, hx207_2⟩ := at_T35 HR0.out (ji16) p207 q207; obtain rfl : ad205 = ad207 := (by injection e207); replace hx207_0 := (HB.out.cell (World.block_lt_of_cell? w _ hx207_0)).trans hx207_0; replace hx207_1 := (HB.out.cell (World.block_lt_of_cell? w _ hx207_1)).trans hx207_1; replace hx207_2 := (HB.out.cell (World.block_lt_of_cell? w _ hx207_2)).trans hx207_2; replace p207 := eq_true p207; replace q207 := eq_true q207))
                (try simp only [Act.put, List.setIfInBounds_toArray, List.set_cons_zero, List.set_cons_succ])
                go_cut [12] (fun v12 wc => ∃ (kq : Nat) (x12_19 : Int), v12 = .int .i64 x12_19 ∧ Aside0 (darninglaw16_CarveCounts.j1 kq l0 a1 ji16 t197 t206 x12_19 = some r) ∧ Aside0 (kq ≤ kj4) ∧ Aside0 (Kd.R k35 35 wc w.heap.size (fun _ => True) v198 t197) ∧ Aside0 (Below w.heap.size w wc))
                case first =>
                  have H := HC20.out
                  clear HC20
                  by_cases c22 : t206 < ((rd_T35 l0 (ji16)).f1)
                  · rw [if_pos c22] at H
                    have c22b0 : decide (t206 < ((rd_T35 l0 (ji16)).f1)) = true := decide_eq_true c22
                    clear c22
                    (first | rw [c22b0] | (simp only [i64_w, i32_w]; rw [c22b0]) | skip)
                    have H' := Aside0.mk H
                    clear H
                    go_wp2
                    go_meet
                    case rel => exact ⟨_, (1), (by first | rfl | (simp; done) | (simp [*]; done)), H', ⟨by have := HJ4.out; first | omega | exact Nat.le_refl _⟩, ⟨by (with_reducible repeat (first | apply Kd.R_alloc | apply Kd.R_drewN | apply Kd.R_drew)); exact HO199.out⟩, ⟨by repeat (first | (with_reducible first | exact HB.out | apply below_alloc | apply pw_below_drewN | apply below_drew1) | exact HB.out)⟩⟩
                  · rw [if_neg c22] at H
                    have c22b0 : decide (t206 < ((rd_T35 l0 (ji16)).f1)) = false := decide_eq_false c22
                    clear c22
                    (first | rw [c22b0] | (simp only [i64_w, i32_w]; rw [c22b0]) | skip)
                    have H' := Aside0.mk H
                    clear H
                    go_wp2
                    go_meet
                    case rel => exact ⟨_, (0), (by first | rfl | (simp; done) | (simp [*]; done)), H', ⟨by have := HJ4.out; first | omega | exact Nat.le_refl _⟩, ⟨by (with_reducible repeat (first | apply Kd.R_alloc | apply Kd.R_drewN | apply Kd.R_drew)); exact HO199.out⟩, ⟨by repeat (first | (with_reducible first | exact HB.out | apply below_alloc | apply pw_below_drewN | apply below_drew1) | exact HB.out)⟩⟩
                case rest =>
                  clear HC20
                  try clear c1
                  try clear c2
                  try clear p2
                  try clear q2
                  try clear hx2
                  try clear c3
                  try clear c6
                  try clear c6b0
                  try clear c6b1
                  try clear p6
                  try clear c7
                  try clear c7b0
                  try clear c7b1
                  try clear c7b2
                  try clear c10
                  try clear c13
                  try clear c13b0
                  try clear c13b1
                  try clear c15
                  try clear c17
                  try clear c17b0
                  try clear c18
                  try clear c18b0
                  try clear p20
                  try clear q20
                  try clear hx20
                  try clear c22
                  try clear c22b0
                  try clear hx205_0
                  try clear hx205_1
                  try clear hx205_2
                  try clear hx207_0
                  try clear hx207_1
                  try clear hx207_2
                  try clear p2
                  try clear p205
                  try clear p207
                  try clear q205
                  try clear q207
                  obtain ⟨kq, x12_19, rfl, HA, HJ19, HO_9, HB⟩ := hcut
                  cases kq with
                  | zero => exact absurd HA.out (by simp [darninglaw16_CarveCounts.j1])
                  | succ kj19 =>
                    have H := HA.out
                    clear HA
                    simp only [darninglaw16_CarveCounts.j1] at H
                    replace H := Option.bind_eq_some_iff.mp H
                    obtain ⟨t208, A230, H⟩ := H
                    replace H : (if t208 = true then (if (t197.length : Int) = (wrap64 ((l0.length : Int) + x12_19)) then (if 0 ≤ ji16 then (if ji16 < (t197.length : Int) then (if ((rd_T35 t197 ji16).f1) = t206 then ((darningref4_FreeWords.f kj19 t197).bind fun t210 => ((darningref4_FreeWords.f kj19 l0).bind fun t211 => (if t210 = (wrap64 (t211 - t206)) then ((darninglaw16_awake.f kj19).bind fun t212 => (some t212)) else (some false)))) else (some false)) else (none)) else (none)) else (some false)) else (some false)) = some r := H
                    have A23 := Aside0.mk A230
                    clear A230
                    by_cases c24 : t208 = true
                    · subst c24
                      have H1 : (if (t197.length : Int) = (wrap64 ((l0.length : Int) + x12_19)) then (if 0 ≤ ji16 then (if ji16 < (t197.length : Int) then (if ((rd_T35 t197 ji16).f1) = t206 then ((darningref4_FreeWords.f kj19 t197).bind fun t210 => ((darningref4_FreeWords.f kj19 l0).bind fun t211 => (if t210 = (wrap64 (t211 - t206)) then ((darninglaw16_awake.f kj19).bind fun t212 => (some t212)) else (some false)))) else (some false)) else (none)) else (none)) else (some false)) = some r := by rw [if_pos rfl] at H; exact H
                      clear H
                      have H := H1
                      clear H1
                      by_cases c25 : (t197.length : Int) = (wrap64 ((l0.length : Int) + x12_19))
                      · rw [if_pos c25] at H
                        have c25b0 : ((t197.length : Int) == (wrap64 ((l0.length : Int) + x12_19))) = true := beq_iff_eq.mpr c25
                        have c25b1 : ((t197.length : Int) != (wrap64 ((l0.length : Int) + x12_19))) = false := bne_eq_false_iff_eq.mpr c25
                        clear c25
                        by_cases c26 : 0 ≤ ji16
                        · rw [if_pos c26] at H
                          have c26b0 : decide (0 ≤ ji16) = true := decide_eq_true c26
                          clear c26
                          by_cases c27 : ji16 < (t197.length : Int)
                          · rw [if_pos c27] at H
                            have c27b0 : decide (ji16 < (t197.length : Int)) = true := decide_eq_true c27
                            clear c27
                            by_cases c28 : ((rd_T35 t197 ji16).f1) = t206
                            · rw [if_pos c28] at H
                              have c28b0 : (((rd_T35 t197 ji16).f1) == t206) = true := beq_iff_eq.mpr c28
                              have c28b1 : (((rd_T35 t197 ji16).f1) != t206) = false := bne_eq_false_iff_eq.mpr c28
                              clear c28
                              replace H := Option.bind_eq_some_iff.mp H
                              obtain ⟨t210, A290, H⟩ := H
                              replace H : ((darningref4_FreeWords.f kj19 l0).bind fun t211 => (if t210 = (wrap64 (t211 - t206)) then ((darninglaw16_awake.f kj19).bind fun t212 => (some t212)) else (some false))) = some r := H
                              have A29 := Aside0.mk A290
                              clear A290
                              replace H := Option.bind_eq_some_iff.mp H
                              obtain ⟨t211, A300, H⟩ := H
                              replace H : (if t210 = (wrap64 (t211 - t206)) then ((darninglaw16_awake.f kj19).bind fun t212 => (some t212)) else (some false)) = some r := H
                              have A30 := Aside0.mk A300
                              clear A300
                              by_cases c31 : t210 = (wrap64 (t211 - t206))
                              · rw [if_pos c31] at H
                                have c31b0 : (t210 == (wrap64 (t211 - t206))) = true := beq_iff_eq.mpr c31
                                have c31b1 : (t210 != (wrap64 (t211 - t206))) = false := bne_eq_false_iff_eq.mpr c31
                                clear c31
                                replace H := Option.bind_eq_some_iff.mp H
                                obtain ⟨t212, A320, H⟩ := H
                                replace H : (some t212) = some r := H
                                have A32 := Aside0.mk A320
                                clear A320
                                obtain rfl := Option.some.inj H
                                obtain ⟨Ao33, co33, eo33⟩ := Kd.R_slice HO_9.out
                                subst eo33
                                go_wp2_with (first | ((with_reducible refine gate_callee (f := 21) rfl ?_); refine goesL_ (some 82) rfl rfl Try.func21 (by kernel_rfl) rfl #[.slice Ao33 t197.length co33, .int .i64 a1] rfl (by (try simp only [List.map_toArray, List.map_cons, List.map_nil]); first | done | rfl | (simp only [List.length_drop, List.length_take]; rfl)) ?_; (with_reducible refine (darningref4_MayBlocks.calls kj19 _ _ t197 a1 true _ ?side1 ?side2 A23.out).mono ?_); (case side1 => repeat (first | exact (Kd.R_reads' HO_9.out).2.2 | (with_reducible refine Kd.C_alloc ?_ _) | (with_reducible refine Kd.C_drewN ?_ _) | (with_reducible refine Kd.C_drew ?_))); (case side2 => exact (Kd.R_reads' HO_9.out).2.1); rintro e w34 ⟨rfl, hb⟩; refine ⟨_, rfl, ?_⟩; have n0_ := Aside0.mk (Kd.R_below (by (with_reducible repeat (first | apply Kd.R_alloc | apply Kd.R_drewN | apply Kd.R_drew)); exact HO_9.out) hb); have n1_ := Aside0.mk (below_step (by repeat (first | (with_reducible first | exact HB.out | apply below_alloc | apply pw_below_drewN | apply below_drew1) | exact HB.out)) hb); clear HO_9; clear HB; have HO_9 := n0_; have HB := n1_; clear n0_ n1_; (try clear hb); (try clear hb2); (try clear hk); (try clear hi); have p209 : 0 ≤ (ji16 : Int) := of_decide_eq_true (by first | (with_reducible assumption) | assumption); have q209 : ji16 < (t197.length : Int) := of_decide_eq_true (by first | (with_reducible assumption) | assumption); obtain ⟨ad209, e209, hx209_0, hx209_1, hx209_2⟩ := at_T35 (Kd.R_reads' HO_9.out).2.2 ji16 p209 q209; cases e209; replace p209 := eq_true p209; replace q209 := eq_true q209) | (go_at_call 31; (with_reducible refine (darningref4_FreeWords.calls kj19 _ _ t197 t210 _ ?side1 ?side2 A29.out).mono ?_); (case side1 => repeat (first | exact (Kd.R_reads' HO_9.out).2.2 | (with_reducible refine Kd.C_alloc ?_ _) | (with_reducible refine Kd.C_drewN ?_ _) | (with_reducible refine Kd.C_drew ?_))); (case side2 => exact (Kd.R_reads' HO_9.out).2.1); rintro e w35 ⟨rfl, hb⟩; have n0_ := Aside0.mk (Kd.R_below (by (with_reducible repeat (first | apply Kd.R_alloc | apply Kd.R_drewN | apply Kd.R_drew)); exact HO_9.out) hb); have n1_ := Aside0.mk (below_step (by repeat (first | (with_reducible first | exact HB.out | apply below_alloc | apply pw_below_drewN | apply below_drew1) | exact HB.out)) hb); clear HO_9; clear HB; have HO_9 := n0_; have HB := n1_; clear n0_ n1_; (try clear hb); (try clear hb2); (try clear hk); (try clear hi)) | (go_at_call 31; (with_reducible refine (darningref4_FreeWords.calls kj19 _ _ l0 t211 _ ?side1 ?side2 A30.out).mono ?_); (case side1 => repeat (first | exact (Kd.C_below HR0.out HB.out) | (with_reducible refine Kd.C_alloc ?_ _) | (with_reducible refine Kd.C_drewN ?_ _) | (with_reducible refine Kd.C_drew ?_))); (case side2 => exact HC0.out); rintro e w36 ⟨rfl, hb⟩; have n0_ := Aside0.mk (Kd.R_below (by (with_reducible repeat (first | apply Kd.R_alloc | apply Kd.R_drewN | apply Kd.R_drew)); exact HO_9.out) hb); have n1_ := Aside0.mk (below_step (by repeat (first | (with_reducible first | exact HB.out | apply below_alloc | apply pw_below_drewN | apply below_drew1) | exact HB.out)) hb); clear HO_9; clear HB; have HO_9 := n0_; have HB := n1_; clear n0_ n1_; (try clear hb); (try clear hb2); (try clear hk); (try clear hi)) | (go_at_call 22; (with_reducible refine (darninglaw16_awake.calls kj19  t212 _ A32.out).mono ?_); rintro e w37 ⟨rfl, hb⟩; have n0_ := Aside0.mk (Kd.R_below (by (with_reducible repeat (first | apply Kd.R_alloc | apply Kd.R_drewN | apply Kd.R_drew)); exact HO_9.out) hb); have n1_ := Aside0.mk (below_step (by repeat (first | (with_reducible first | exact HB.out | apply below_alloc | apply pw_below_drewN | apply below_drew1) | exact HB.out)) hb); clear HO_9; clear HB; have HO_9 := n0_; have HB := n1_; clear n0_ n1_; (try clear hb); (try clear hb2); (try clear hk); (try clear hi)))
                                go_ret
                                exact ⟨by first | rfl | (simp [errW_none, errW_some] <;> rfl) | (simp only [← hji16]; first | rfl | (simp [errW_none, errW_some] <;> rfl)) | (simp [*, errW_none, errW_some] <;> rfl), by repeat (first | (with_reducible first | exact HB.out | apply below_alloc | apply pw_below_drewN | apply below_drew1) | exact HB.out)⟩
                              · rw [if_neg c31] at H
                                have c31b0 : (t210 == (wrap64 (t211 - t206))) = false := beq_eq_false_iff_ne.mpr c31
                                have c31b1 : (t210 != (wrap64 (t211 - t206))) = true := bne_iff_ne.mpr c31
                                obtain rfl := Option.some.inj H
                                obtain ⟨Ao38, co38, eo38⟩ := Kd.R_slice HO_9.out
                                subst eo38
                                go_wp2_with (first | ((with_reducible refine gate_callee (f := 21) rfl ?_); refine goesL_ (some 82) rfl rfl Try.func21 (by kernel_rfl) rfl #[.slice Ao38 t197.length co38, .int .i64 a1] rfl (by (try simp only [List.map_toArray, List.map_cons, List.map_nil]); first | done | rfl | (simp only [List.length_drop, List.length_take]; rfl)) ?_; (with_reducible refine (darningref4_MayBlocks.calls kj19 _ _ t197 a1 true _ ?side1 ?side2 A23.out).mono ?_); (case side1 => repeat (first | exact (Kd.R_reads' HO_9.out).2.2 | (with_reducible refine Kd.C_alloc ?_ _) | (with_reducible refine Kd.C_drewN ?_ _) | (with_reducible refine Kd.C_drew ?_))); (case side2 => exact (Kd.R_reads' HO_9.out).2.1); rintro e w39 ⟨rfl, hb⟩; refine ⟨_, rfl, ?_⟩; have n0_ := Aside0.mk (Kd.R_below (by (with_reducible repeat (first | apply Kd.R_alloc | apply Kd.R_drewN | apply Kd.R_drew)); exact HO_9.out) hb); have n1_ := Aside0.mk (below_step (by repeat (first | (with_reducible first | exact HB.out | apply below_alloc | apply pw_below_drewN | apply below_drew1) | exact HB.out)) hb); clear HO_9; clear HB; have HO_9 := n0_; have HB := n1_; clear n0_ n1_; (try clear hb); (try clear hb2); (try clear hk); (try clear hi); have p209 : 0 ≤ (ji16 : Int) := of_decide_eq_true (by first | (with_reducible assumption) | assumption); have q209 : ji16 < (t197.length : Int) := of_decide_eq_true (by first | (with_reducible assumption) | assumption); obtain ⟨ad209, e209, hx209_0, hx209_1, hx209_2⟩ := at_T35 (Kd.R_reads' HO_9.out).2.2 ji16 p209 q209; cases e209; replace p209 := eq_true p209; replace q209 := eq_true q209) | (go_at_call 31; (with_reducible refine (darningref4_FreeWords.calls kj19 _ _ t197 t210 _ ?side1 ?side2 A29.out).mono ?_); (case side1 => repeat (first | exact (Kd.R_reads' HO_9.out).2.2 | (with_reducible refine Kd.C_alloc ?_ _) | (with_reducible refine Kd.C_drewN ?_ _) | (with_reducible refine Kd.C_drew ?_))); (case side2 => exact (Kd.R_reads' HO_9.out).2.1); rintro e w40 ⟨rfl, hb⟩; have n0_ := Aside0.mk (Kd.R_below (by (with_reducible repeat (first | apply Kd.R_alloc | apply Kd.R_drewN | apply Kd.R_drew)); exact HO_9.out) hb); have n1_ := Aside0.mk (below_step (by repeat (first | (with_reducible first | exact HB.out | apply below_alloc | apply pw_below_drewN | apply below_drew1) | exact HB.out)) hb); clear HO_9; clear HB; have HO_9 := n0_; have HB := n1_; clear n0_ n1_; (try clear hb); (try clear hb2); (try clear hk); (try clear hi)) | (go_at_call 31; (with_reducible refine (darningref4_FreeWords.calls kj19 _ _ l0 t211 _ ?side1 ?side2 A30.out).mono ?_); (case side1 => repeat (first | exact (Kd.C_below HR0.out HB.out) | (with_reducible refine Kd.C_alloc ?_ _) | (with_reducible refine Kd.C_drewN ?_ _) | (with_reducible refine Kd.C_drew ?_))); (case side2 => exact HC0.out); rintro e w41 ⟨rfl, hb⟩; have n0_ := Aside0.mk (Kd.R_below (by (with_reducible repeat (first | apply Kd.R_alloc | apply Kd.R_drewN | apply Kd.R_drew)); exact HO_9.out) hb); have n1_ := Aside0.mk (below_step (by repeat (first | (with_reducible first | exact HB.out | apply below_alloc | apply pw_below_drewN | apply below_drew1) | exact HB.out)) hb); clear HO_9; clear HB; have HO_9 := n0_; have HB := n1_; clear n0_ n1_; (try clear hb); (try clear hb2); (try clear hk); (try clear hi)))
                                go_ret
                                exact ⟨by first | rfl | (simp [errW_none, errW_some] <;> rfl) | (simp only [← hji16]; first | rfl | (simp [errW_none, errW_some] <;> rfl)) | (simp [*, errW_none, errW_some] <;> rfl), by repeat (first | (with_reducible first | exact HB.out | apply below_alloc | apply pw_below_drewN | apply below_drew1) | exact HB.out)⟩
                            · rw [if_neg c28] at H
                              have c28b0 : (((rd_T35 t197 ji16).f1) == t206) = false := beq_eq_false_iff_ne.mpr c28
                              have c28b1 : (((rd_T35 t197 ji16).f1) != t206) = true := bne_iff_ne.mpr c28
                              obtain rfl := Option.some.inj H
                              obtain ⟨Ao42, co42, eo42⟩ := Kd.R_slice HO_9.out
                              subst eo42
                              go_wp2_with (first | ((with_reducible refine gate_callee (f := 21) rfl ?_); refine goesL_ (some 82) rfl rfl Try.func21 (by kernel_rfl) rfl #[.slice Ao42 t197.length co42, .int .i64 a1] rfl (by (try simp only [List.map_toArray, List.map_cons, List.map_nil]); first | done | rfl | (simp only [List.length_drop, List.length_take]; rfl)) ?_; (with_reducible refine (darningref4_MayBlocks.calls kj19 _ _ t197 a1 true _ ?side1 ?side2 A23.out).mono ?_); (case side1 => repeat (first | exact (Kd.R_reads' HO_9.out).2.2 | (with_reducible refine Kd.C_alloc ?_ _) | (with_reducible refine Kd.C_drewN ?_ _) | (with_reducible refine Kd.C_drew ?_))); (case side2 => exact (Kd.R_reads' HO_9.out).2.1); rintro e w43 ⟨rfl, hb⟩; refine ⟨_, rfl, ?_⟩; have n0_ := Aside0.mk (Kd.R_below (by (with_reducible repeat (first | apply Kd.R_alloc | apply Kd.R_drewN | apply Kd.R_drew)); exact HO_9.out) hb); have n1_ := Aside0.mk (below_step (by repeat (first | (with_reducible first | exact HB.out | apply below_alloc | apply pw_below_drewN | apply below_drew1) | exact HB.out)) hb); clear HO_9; clear HB; have HO_9 := n0_; have HB := n1_; clear n0_ n1_; (try clear hb); (try clear hb2); (try clear hk); (try clear hi); have p209 : 0 ≤ (ji16 : Int) := of_decide_eq_true (by first | (with_reducible assumption) | assumption); have q209 : ji16 < (t197.length : Int) := of_decide_eq_true (by first | (with_reducible assumption) | assumption); obtain ⟨ad209, e209, hx209_0, hx209_1, hx209_2⟩ := at_T35 (Kd.R_reads' HO_9.out).2.2 ji16 p209 q209; cases e209; replace p209 := eq_true p209; replace q209 := eq_true q209))
                              go_ret
                              exact ⟨by first | rfl | (simp [errW_none, errW_some] <;> rfl) | (simp only [← hji16]; first | rfl | (simp [errW_none, errW_some] <;> rfl)) | (simp [*, errW_none, errW_some] <;> rfl), by repeat (first | (with_reducible first | exact HB.out | apply below_alloc | apply pw_below_drewN | apply below_drew1) | exact HB.out)⟩
                          · rw [if_neg c27] at H
                            exact absurd H (by simp)
                        · rw [if_neg c26] at H
                          exact absurd H (by simp)
                      · rw [if_neg c25] at H
                        have c25b0 : ((t197.length : Int) == (wrap64 ((l0.length : Int) + x12_19))) = false := beq_eq_false_iff_ne.mpr c25
                        have c25b1 : ((t197.length : Int) != (wrap64 ((l0.length : Int) + x12_19))) = true := bne_iff_ne.mpr c25
                        obtain rfl := Option.some.inj H
                        obtain ⟨Ao44, co44, eo44⟩ := Kd.R_slice HO_9.out
                        subst eo44
                        go_wp2_with (first | ((with_reducible refine gate_callee (f := 21) rfl ?_); refine goesL_ (some 82) rfl rfl Try.func21 (by kernel_rfl) rfl #[.slice Ao44 t197.length co44, .int .i64 a1] rfl (by (try simp only [List.map_toArray, List.map_cons, List.map_nil]); first | done | rfl | (simp only [List.length_drop, List.length_take]; rfl)) ?_; (with_reducible refine (darningref4_MayBlocks.calls kj19 _ _ t197 a1 true _ ?side1 ?side2 A23.out).mono ?_); (case side1 => repeat (first | exact (Kd.R_reads' HO_9.out).2.2 | (with_reducible refine Kd.C_alloc ?_ _) | (with_reducible refine Kd.C_drewN ?_ _) | (with_reducible refine Kd.C_drew ?_))); (case side2 => exact (Kd.R_reads' HO_9.out).2.1); rintro e w45 ⟨rfl, hb⟩; refine ⟨_, rfl, ?_⟩; have n0_ := Aside0.mk (Kd.R_below (by (with_reducible repeat (first | apply Kd.R_alloc | apply Kd.R_drewN | apply Kd.R_drew)); exact HO_9.out) hb); have n1_ := Aside0.mk (below_step (by repeat (first | (with_reducible first | exact HB.out | apply below_alloc | apply pw_below_drewN | apply below_drew1) | exact HB.out)) hb); clear HO_9; clear HB; have HO_9 := n0_; have HB := n1_; clear n0_ n1_; (try clear hb); (try clear hb2); (try clear hk); (try clear hi)))
                        go_ret
                        exact ⟨by first | rfl | (simp [errW_none, errW_some] <;> rfl) | (simp only [← hji16]; first | rfl | (simp [errW_none, errW_some] <;> rfl)) | (simp [*, errW_none, errW_some] <;> rfl), by repeat (first | (with_reducible first | exact HB.out | apply below_alloc | apply pw_below_drewN | apply below_drew1) | exact HB.out)⟩
                    · replace c24 := Bool.eq_false_iff.mpr c24
                      subst c24
                      have H1 : (some false) = some r := by rw [if_neg (show ¬ (false = true) by decide)] at H; exact H
                      clear H
                      have H := H1
                      clear H1
                      obtain rfl := Option.some.inj H
                      obtain ⟨Ao46, co46, eo46⟩ := Kd.R_slice HO_9.out
                      subst eo46
                      go_wp2_with (first | ((with_reducible refine gate_callee (f := 21) rfl ?_); refine goesL_ (some 82) rfl rfl Try.func21 (by kernel_rfl) rfl #[.slice Ao46 t197.length co46, .int .i64 a1] rfl (by (try simp only [List.map_toArray, List.map_cons, List.map_nil]); first | done | rfl | (simp only [List.length_drop, List.length_take]; rfl)) ?_; (with_reducible refine (darningref4_MayBlocks.calls kj19 _ _ t197 a1 false _ ?side1 ?side2 A23.out).mono ?_); (case side1 => repeat (first | exact (Kd.R_reads' HO_9.out).2.2 | (with_reducible refine Kd.C_alloc ?_ _) | (with_reducible refine Kd.C_drewN ?_ _) | (with_reducible refine Kd.C_drew ?_))); (case side2 => exact (Kd.R_reads' HO_9.out).2.1); rintro e w47 ⟨rfl, hb⟩; refine ⟨_, rfl, ?_⟩; have n0_ := Aside0.mk (Kd.R_below (by (with_reducible repeat (first | apply Kd.R_alloc | apply Kd.R_drewN | apply Kd.R_drew)); exact HO_9.out) hb); have n1_ := Aside0.mk (below_step (by repeat (first | (with_reducible first | exact HB.out | apply below_alloc | apply pw_below_drewN | apply below_drew1) | exact HB.out)) hb); clear HO_9; clear HB; have HO_9 := n0_; have HB := n1_; clear n0_ n1_; (try clear hb); (try clear hb2); (try clear hk); (try clear hi)))
                      go_ret
                      exact ⟨by first | rfl | (simp [errW_none, errW_some] <;> rfl) | (simp only [← hji16]; first | rfl | (simp [errW_none, errW_some] <;> rfl)) | (simp [*, errW_none, errW_some] <;> rfl), by repeat (first | (with_reducible first | exact HB.out | apply below_alloc | apply pw_below_drewN | apply below_drew1) | exact HB.out)⟩
              · rw [if_neg c18] at H
                exact absurd H (by simp)
            · rw [if_neg c17] at H
              exact absurd H (by simp)
          · replace c15 := Bool.eq_false_iff.mpr c15
            subst c15
            have H1 : (if 0 ≤ (wrap64 (Int.tmod (IntKind.u64.wrap (a2)) (IntKind.u64.wrap ((l0.length : Int))))) then (if (wrap64 (Int.tmod (IntKind.u64.wrap (a2)) (IntKind.u64.wrap ((l0.length : Int))))) < (l0.length : Int) then (if (rd_T35 l0 (wrap64 (Int.tmod (IntKind.u64.wrap (a2)) (IntKind.u64.wrap ((l0.length : Int)))))).f2 = true then ((darninglaw16_awake.f kj4).bind fun t202 => (some t202)) else (if ((rd_T35 l0 (wrap64 (Int.tmod (IntKind.u64.wrap (a2)) (IntKind.u64.wrap ((l0.length : Int)))))).f1) < (wrap64 (2 + (wrap64 (Int.tmod (IntKind.u64.wrap (a3)) 60)))) then ((darninglaw16_awake.f kj4).bind fun t204 => (some t204)) else (some false))) else (none)) else (none)) = some r := by rw [if_neg (show ¬ (false = true) by decide)] at H; exact H
            clear H
            have H := H1
            clear H1
            obtain ⟨ji48, hji48⟩ : ∃ j_ : Int, (wrap64 (Int.tmod (IntKind.u64.wrap (a2)) (IntKind.u64.wrap ((l0.length : Int))))) = j_ := ⟨_, rfl⟩
            replace H : (if 0 ≤ (ji48) then (if (ji48) < (l0.length : Int) then (if (rd_T35 l0 (ji48)).f2 = true then ((darninglaw16_awake.f kj4).bind fun t202 => (some t202)) else (if ((rd_T35 l0 (ji48)).f1) < (wrap64 (2 + (wrap64 (Int.tmod (IntKind.u64.wrap (a3)) 60)))) then ((darninglaw16_awake.f kj4).bind fun t204 => (some t204)) else (some false))) else (none)) else (none)) = some r := by first | (rw [hji48] at H; exact H) | (simp only [hji48] at H ⊢; exact H)
            (try rw [hji48] at A14)
            have hji48w : (IntKind.i64.wrap (Int.tmod (IntKind.u64.wrap (a2)) (IntKind.u64.wrap ((l0.length : Int))))) = ji48 := (i64_w _).trans hji48
            by_cases c49 : 0 ≤ (ji48)
            · rw [if_pos c49] at H
              have c49b0 : decide (0 ≤ (ji48)) = true := decide_eq_true c49
              clear c49
              by_cases c50 : (ji48) < (l0.length : Int)
              · rw [if_pos c50] at H
                have c50b0 : decide ((ji48) < (l0.length : Int)) = true := decide_eq_true c50
                clear c50
                first | (generalize hbq51 : (rd_T35 l0 (ji48)).f2 = bq51 at *; replace hbq51 := hbq51.symm) | (obtain ⟨bq51, hbq51⟩ : ∃ b_ : Bool, b_ = ((rd_T35 l0 (ji48)).f2) := ⟨_, rfl⟩)
                replace H : (if bq51 = true then ((darninglaw16_awake.f kj4).bind fun t202 => (some t202)) else (if ((rd_T35 l0 (ji48)).f1) < (wrap64 (2 + (wrap64 (Int.tmod (IntKind.u64.wrap (a3)) 60)))) then ((darninglaw16_awake.f kj4).bind fun t204 => (some t204)) else (some false))) = some r := by first | exact H | (rw [← hbq51] at H; exact H)
                have Nbq51 := Aside0.mk hbq51
                clear hbq51
                (try rw [← Nbq51.out])
                by_cases c52 : bq51 = true
                · subst c52
                  have H1 : ((darninglaw16_awake.f kj4).bind fun t202 => (some t202)) = some r := by rw [if_pos rfl] at H; exact H
                  clear H
                  have H := H1
                  clear H1
                  replace H := Option.bind_eq_some_iff.mp H
                  obtain ⟨t202, A530, H⟩ := H
                  replace H : (some t202) = some r := H
                  have A53 := Aside0.mk A530
                  clear A530
                  obtain rfl := Option.some.inj H
                  go_wp2_with (first | ((with_reducible refine gate_callee (f := 23) rfl ?_); refine goesL_ (some 44) rfl rfl Try.func23 (by kernel_rfl) rfl #[.slice A0 l0.length c0, .int .i64 ji48, .int .i64 (wrap64 (2 + (wrap64 (Int.tmod (IntKind.u64.wrap (a3)) 60))))] rfl (by (try simp only [List.map_toArray, List.map_cons, List.map_nil]); first | done | (simp only [hji48]; rfl) | rfl | (simp only [List.length_drop, List.length_take]; rfl)) ?_; (with_reducible refine (carve_Blocks.calls kj4 (fun k_ => k_ < w.heap.size) _ _ l0 ji48 (wrap64 (2 + (wrap64 (Int.tmod (IntKind.u64.wrap (a3)) 60)))) t197 false _ ?side1 A14.out).mono ?_); (case side1 => exact Kd.V_mk HC0.out (Kd.F_below (Kd.C_F k35_heap HR0.out) (by repeat (first | (with_reducible first | exact HB.out | apply below_alloc | apply pw_below_drewN | apply below_drew1) | exact HB.out)))); rintro e w54 ⟨v198, rfl, ho0, hb⟩; refine ⟨_, rfl, ?_⟩; have n0_ := Aside0.mk (Kd.R_lower (Kd.R_mono (ok' := fun k_ => True) ho0 (fun _ hk_ => trivial)) (below_size (by repeat (first | (with_reducible first | exact HB.out | apply below_alloc | apply pw_below_drewN | apply below_drew1) | exact HB.out)))); have n1_ := Aside0.mk (below_step (by repeat (first | (with_reducible first | exact HB.out | apply below_alloc | apply pw_below_drewN | apply below_drew1) | exact HB.out)) hb); clear HB; have HO199 := n0_; have HB := n1_; clear n0_ n1_; (try clear hb); (try clear hb2); (try clear hk); (try clear hi); (try clear ho0); have p201 : 0 ≤ ((ji48) : Int) := of_decide_eq_true (by first | (with_reducible assumption) | assumption); have q201 : (ji48) < (l0.length : Int) := of_decide_eq_true (by first | (with_reducible assumption) | assumption); obtain ⟨ad201, e201, hx201_0, hx201_1, hx201_2⟩ := at_T35 HR0.out (ji48) p201 q201; (try rw [← Nbq51.out] at hx201_2); cases e201; replace hx201_0 := (HB.out.cell (World.block_lt_of_cell? w _ hx201_0)).trans hx201_0; replace hx201_1 := (HB.out.cell (World.block_lt_of_cell? w _ hx201_1)).trans hx201_1; replace hx201_2 := (HB.out.cell (World.block_lt_of_cell? w _ hx201_2)).trans hx201_2; replace p201 := eq_true p201; replace q201 := eq_true q201) | (go_at_call 22; (with_reducible refine (darninglaw16_awake.calls kj4  t202 _ A53.out).mono ?_); rintro e w55 ⟨rfl, hb⟩; have n0_ := Aside0.mk (Kd.R_below (by (with_reducible repeat (first | apply Kd.R_alloc | apply Kd.R_drewN | apply Kd.R_drew)); exact HO199.out) hb); have n1_ := Aside0.mk (below_step (by repeat (first | (with_reducible first | exact HB.out | apply below_alloc | apply pw_below_drewN | apply below_drew1) | exact HB.out)) hb); clear HO199; clear HB; have HO199 := n0_; have HB := n1_; clear n0_ n1_; (try clear hb); (try clear hb2); (try clear hk); (try clear hi)))
                  go_ret
                  exact ⟨by first | rfl | (simp [errW_none, errW_some] <;> rfl) | (simp only [← hji48]; first | rfl | (simp [errW_none, errW_some] <;> rfl)) | (simp [*, errW_none, errW_some] <;> rfl), by repeat (first | (with_reducible first | exact HB.out | apply below_alloc | apply pw_below_drewN | apply below_drew1) | exact HB.out)⟩
                · replace c52 := Bool.eq_false_iff.mpr c52
                  subst c52
                  have H1 : (if ((rd_T35 l0 (ji48)).f1) < (wrap64 (2 + (wrap64 (Int.tmod (IntKind.u64.wrap (a3)) 60)))) then ((darninglaw16_awake.f kj4).bind fun t204 => (some t204)) else (some false)) = some r := by rw [if_neg (show ¬ (false = true) by decide)] at H; exact H
                  clear H
                  have H := H1
                  clear H1
                  by_cases c56 : ((rd_T35 l0 (ji48)).f1) < (wrap64 (2 + (wrap64 (Int.tmod (IntKind.u64.wrap (a3)) 60))))
                  · rw [if_pos c56] at H
                    have c56b0 : decide (((rd_T35 l0 (ji48)).f1) < (wrap64 (2 + (wrap64 (Int.tmod (IntKind.u64.wrap (a3)) 60))))) = true := decide_eq_true c56
                    clear c56
                    replace H := Option.bind_eq_some_iff.mp H
                    obtain ⟨t204, A570, H⟩ := H
                    replace H : (some t204) = some r := H
                    have A57 := Aside0.mk A570
                    clear A570
                    obtain rfl := Option.some.inj H
                    go_wp2_with (first | ((with_reducible refine gate_callee (f := 23) rfl ?_); refine goesL_ (some 44) rfl rfl Try.func23 (by kernel_rfl) rfl #[.slice A0 l0.length c0, .int .i64 ji48, .int .i64 (wrap64 (2 + (wrap64 (Int.tmod (IntKind.u64.wrap (a3)) 60))))] rfl (by (try simp only [List.map_toArray, List.map_cons, List.map_nil]); first | done | (simp only [hji48]; rfl) | rfl | (simp only [List.length_drop, List.length_take]; rfl)) ?_; (with_reducible refine (carve_Blocks.calls kj4 (fun k_ => k_ < w.heap.size) _ _ l0 ji48 (wrap64 (2 + (wrap64 (Int.tmod (IntKind.u64.wrap (a3)) 60)))) t197 false _ ?side1 A14.out).mono ?_); (case side1 => exact Kd.V_mk HC0.out (Kd.F_below (Kd.C_F k35_heap HR0.out) (by repeat (first | (with_reducible first | exact HB.out | apply below_alloc | apply pw_below_drewN | apply below_drew1) | exact HB.out)))); rintro e w58 ⟨v198, rfl, ho0, hb⟩; refine ⟨_, rfl, ?_⟩; have n0_ := Aside0.mk (Kd.R_lower (Kd.R_mono (ok' := fun k_ => True) ho0 (fun _ hk_ => trivial)) (below_size (by repeat (first | (with_reducible first | exact HB.out | apply below_alloc | apply pw_below_drewN | apply below_drew1) | exact HB.out)))); have n1_ := Aside0.mk (below_step (by repeat (first | (with_reducible first | exact HB.out | apply below_alloc | apply pw_below_drewN | apply below_drew1) | exact HB.out)) hb); clear HB; have HO199 := n0_; have HB := n1_; clear n0_ n1_; (try clear hb); (try clear hb2); (try clear hk); (try clear hi); (try clear ho0); have p201 : 0 ≤ ((ji48) : Int) := of_decide_eq_true (by first | (with_reducible assumption) | assumption); have q201 : (ji48) < (l0.length : Int) := of_decide_eq_true (by first | (with_reducible assumption) | assumption); obtain ⟨ad201, e201, hx201_0, hx201_1, hx201_2⟩ := at_T35 HR0.out (ji48) p201 q201; (try rw [← Nbq51.out] at hx201_2); cases e201; replace hx201_0 := (HB.out.cell (World.block_lt_of_cell? w _ hx201_0)).trans hx201_0; replace hx201_1 := (HB.out.cell (World.block_lt_of_cell? w _ hx201_1)).trans hx201_1; replace hx201_2 := (HB.out.cell (World.block_lt_of_cell? w _ hx201_2)).trans hx201_2; replace p201 := eq_true p201; replace q201 := eq_true q201; have p203 : 0 ≤ ((ji48) : Int) := of_decide_eq_true (by first | (with_reducible assumption) | assumption); have q203 : (ji48) < (l0.length : Int) := of_decide_eq_true (by first | (with_reducible assumption) | assumption); obtain ⟨ad203, e203, hx203_0, hx203_1, hx203_2⟩ := at_T35 HR0.out (ji48) p203 q203; (try rw [← Nbq51.out] at hx203_2); obtain rfl : ad201 = ad203 := (by injection e203); replace hx203_0 := (HB.out.cell (World.block_lt_of_cell? w _ hx203_0)).trans hx203_0; replace hx203_1 := (HB.out.cell (World.block_lt_of_cell? w _ hx203_1)).trans hx203_1; replace hx203_2 := (HB.out.cell (World.block_lt_of_cell? w _ hx203_2)).trans hx203_2; replace p203 := eq_true p203; replace q203 := eq_true q203) | (go_at_call 22; (with_reducible refine (darninglaw16_awake.calls kj4  t204 _ A57.out).mono ?_); rintro e w59 ⟨rfl, hb⟩; have n0_ := Aside0.mk (Kd.R_below (by (with_reducible repeat (first | apply Kd.R_alloc | apply Kd.R_drewN | apply Kd.R_drew)); exact HO199.out) hb); have n1_ := Aside0.mk (below_step (by repeat (first | (with_reducible first | exact HB.out | apply below_alloc | apply pw_below_drewN | apply below_drew1) | exact HB.out)) hb); clear HO199; clear HB; have HO199 := n0_; have HB := n1_; clear n0_ n1_; (try clear hb); (try clear hb2); (try clear hk); (try clear hi)))
                    go_ret
                    exact ⟨by first | rfl | (simp [errW_none, errW_some] <;> rfl) | (simp only [← hji48]; first | rfl | (simp [errW_none, errW_some] <;> rfl)) | (simp [*, errW_none, errW_some] <;> rfl), by repeat (first | (with_reducible first | exact HB.out | apply below_alloc | apply pw_below_drewN | apply below_drew1) | exact HB.out)⟩
                  · rw [if_neg c56] at H
                    have c56b0 : decide (((rd_T35 l0 (ji48)).f1) < (wrap64 (2 + (wrap64 (Int.tmod (IntKind.u64.wrap (a3)) 60))))) = false := decide_eq_false c56
                    clear c56
                    obtain rfl := Option.some.inj H
                    go_wp2_with (first | ((with_reducible refine gate_callee (f := 23) rfl ?_); refine goesL_ (some 44) rfl rfl Try.func23 (by kernel_rfl) rfl #[.slice A0 l0.length c0, .int .i64 ji48, .int .i64 (wrap64 (2 + (wrap64 (Int.tmod (IntKind.u64.wrap (a3)) 60))))] rfl (by (try simp only [List.map_toArray, List.map_cons, List.map_nil]); first | done | (simp only [hji48]; rfl) | rfl | (simp only [List.length_drop, List.length_take]; rfl)) ?_; (with_reducible refine (carve_Blocks.calls kj4 (fun k_ => k_ < w.heap.size) _ _ l0 ji48 (wrap64 (2 + (wrap64 (Int.tmod (IntKind.u64.wrap (a3)) 60)))) t197 false _ ?side1 A14.out).mono ?_); (case side1 => exact Kd.V_mk HC0.out (Kd.F_below (Kd.C_F k35_heap HR0.out) (by repeat (first | (with_reducible first | exact HB.out | apply below_alloc | apply pw_below_drewN | apply below_drew1) | exact HB.out)))); rintro e w60 ⟨v198, rfl, ho0, hb⟩; refine ⟨_, rfl, ?_⟩; have n0_ := Aside0.mk (Kd.R_lower (Kd.R_mono (ok' := fun k_ => True) ho0 (fun _ hk_ => trivial)) (below_size (by repeat (first | (with_reducible first | exact HB.out | apply below_alloc | apply pw_below_drewN | apply below_drew1) | exact HB.out)))); have n1_ := Aside0.mk (below_step (by repeat (first | (with_reducible first | exact HB.out | apply below_alloc | apply pw_below_drewN | apply below_drew1) | exact HB.out)) hb); clear HB; have HO199 := n0_; have HB := n1_; clear n0_ n1_; (try clear hb); (try clear hb2); (try clear hk); (try clear hi); (try clear ho0); have p201 : 0 ≤ ((ji48) : Int) := of_decide_eq_true (by first | (with_reducible assumption) | assumption); have q201 : (ji48) < (l0.length : Int) := of_decide_eq_true (by first | (with_reducible assumption) | assumption); obtain ⟨ad201, e201, hx201_0, hx201_1, hx201_2⟩ := at_T35 HR0.out (ji48) p201 q201; (try rw [← Nbq51.out] at hx201_2); cases e201; replace hx201_0 := (HB.out.cell (World.block_lt_of_cell? w _ hx201_0)).trans hx201_0; replace hx201_1 := (HB.out.cell (World.block_lt_of_cell? w _ hx201_1)).trans hx201_1; replace hx201_2 := (HB.out.cell (World.block_lt_of_cell? w _ hx201_2)).trans hx201_2; replace p201 := eq_true p201; replace q201 := eq_true q201; have p203 : 0 ≤ ((ji48) : Int) := of_decide_eq_true (by first | (with_reducible assumption) | assumption); have q203 : (ji48) < (l0.length : Int) := of_decide_eq_true (by first | (with_reducible assumption) | assumption); obtain ⟨ad203, e203, hx203_0, hx203_1, hx203_2⟩ := at_T35 HR0.out (ji48) p203 q203; (try rw [← Nbq51.out] at hx203_2); obtain rfl : ad201 = ad203 := (by injection e203); replace hx203_0 := (HB.out.cell (World.block_lt_of_cell? w _ hx203_0)).trans hx203_0; replace hx203_1 := (HB.out.cell (World.block_lt_of_cell? w _ hx203_1)).trans hx203_1; replace hx203_2 := (HB.out.cell (World.block_lt_of_cell? w _ hx203_2)).trans hx203_2; replace p203 := eq_true p203; replace q203 := eq_true q203))
                    go_ret
                    exact ⟨by first | rfl | (simp [errW_none, errW_some] <;> rfl) | (simp only [← hji48]; first | rfl | (simp [errW_none, errW_some] <;> rfl)) | (simp [*, errW_none, errW_some] <;> rfl), by repeat (first | (with_reducible first | exact HB.out | apply below_alloc | apply pw_below_drewN | apply below_drew1) | exact HB.out)⟩
              · rw [if_neg c50] at H
                exact absurd H (by simp)
            · rw [if_neg c49] at H
              exact absurd H (by simp)
/-- What a value of type 35 that is read fits. -/
def wfT35 (x : S35) : Prop := (Lit.int .i64 x.f0).wf = true ∧ (Lit.int .i64 x.f1).wf = true ∧ True

/-- THE ONE PURE STATEMENT of darninglaw16_CarveCounts. -/
def darninglaw16_CarveCounts.Pure : Prop := ∀ (l0 : List (S35)) (a1 : Int) (a2 : Int) (a3 : Int), l0.length ≤ maxLen → l0.length * 24 ≤ 140737488351232 → (∀ x ∈ l0, wfT35 x) → (Lit.int .i64 a1).wf = true → (Lit.int .i64 a2).wf = true → (Lit.int .i64 a3).wf = true → ∃ k, darninglaw16_CarveCounts.f k l0 a1 a2 a3 = some true
theorem darninglaw16_CarveCounts.walk (P : darninglaw16_CarveCounts.Pure) (A0 : Option Addr) (c0 : Nat) (l0 : List (S35)) (a1 : Int) (a2 : Int) (a3 : Int) (w : World) (hr0 : Kd.C k35 w A0 l0.length l0) (hc0 : l0.length ≤ c0) (hm0 : l0.length ≤ maxLen) (y0 : l0.length * 24 ≤ 140737488351232) (hw0 : (∀ x ∈ l0, wfT35 x)) (w1 : (Lit.int .i64 a1).wf = true) (w2 : (Lit.int .i64 a2).wf = true) (w3 : (Lit.int .i64 a3).wf = true) :
    Calls Try.prog 7 #[.slice A0 l0.length c0, .int .i64 a1, .int .i64 a2, .int .i64 a3] w fun e w' => e = .returned (.bool true) ∧ Below w.heap.size w w' := by
  obtain ⟨k, h⟩ := P l0 a1 a2 a3 hm0 y0 hw0 w1 w2 w3
  refine (darninglaw16_CarveCounts.calls k A0 c0 l0 a1 a2 a3 true w hr0 hc0 h).mono ?_
  rintro e w' ⟨rfl, hd⟩
  exact ⟨rfl, hd⟩

end Go.Proofs.Ytglekonhdjploaa.XCarveCounts
