-- Laid by this session's own printer (wip/xprint.py): each Go function that the law reaches as a plain Lean function, and that the call comes to it.
import Derived.Test.YtjmlbkbjmeeplabXGuardFormsx0
namespace Go.Proofs.Ytjmlbkbjmeeplab.XGuardForms
open Go.RowKit Go.Proofs.YtjmlbkbjmeeplabW.PrintWords Go.Proofs.YtjmlbkbjmeeplabW.PrintLast Go.Proofs.YtjmlbkbjmeeplabW.PrintMore
attribute [local go_sem] max2_int min2_int max_two min_two max_three min_three max_four min_four   -- for this text's walks alone
set_option linter.unusedVariables false
set_option linter.unusedSimpArgs false

/-! ### darningref1_Run: function 34 -/
mutual
def darningref1_Run.l0 : Nat → List Int → List (S50) → List Int → List (S50) → Int → Int → Option (List Int × Int × Bool)
  | 0, _, _, _, _, _, _ => none
  | k + 1, x0, x1, x7, x13, x14, x15 => if x15 < x14 then (if 0 ≤ x15 then (if x15 < (x13.length : Int) then (if ([] : List Int).length + x7.length < 17592186044416 then ((some (([] : List Int) ++ x7 : List Int)).bind fun y124 => (if ((rd_T50 x13 x15).f0) = 1 then (if y124.length < 17592186044416 then (if ((x7.length : Int) < 1000) then (darningref1_Run.l0 k x0 x1 (y124 ++ [(rd_T50 x13 x15).f1]) x13 x14 (wrap64 (x15 + 1))) else (some (x7, x15, false))) else (none)) else (if ((rd_T50 x13 x15).f0) = 2 then (if (x7.length : Int) ≥ 2 then (if 0 ≤ (wrap64 ((x7.length : Int) - 2)) then (if (wrap64 ((x7.length : Int) - 2)) ≤ (y124.length : Int) then ((some (y124.take ((wrap64 ((x7.length : Int) - 2)) : Int).toNat : List Int)).bind fun y130 => (if (wrap64 ((x7.length : Int) - 2)) < (x7.length : Int) then (if 0 ≤ (wrap64 ((x7.length : Int) - 1)) then (if (wrap64 ((x7.length : Int) - 1)) < (x7.length : Int) then (if y130.length < 17592186044416 then (if ((x7.length : Int) ≥ 2) then (darningref1_Run.l0 k x0 x1 (y130 ++ [wrap64 ((rd x7 (wrap64 ((x7.length : Int) - 2))) + (rd x7 (wrap64 ((x7.length : Int) - 1))))]) x13 x14 (wrap64 (x15 + 1))) else (some (x7, x15, false))) else (none)) else (none)) else (none)) else (none))) else (none)) else (none)) else (if ((x7.length : Int) ≥ 2) then (darningref1_Run.l0 k x0 x1 y124 x13 x14 (wrap64 (x15 + 1))) else (some (x7, x15, false)))) else (if ((rd_T50 x13 x15).f0) = 3 then (if (x7.length : Int) ≥ 2 then (if 0 ≤ (wrap64 ((x7.length : Int) - 1)) then (if (wrap64 ((x7.length : Int) - 1)) < (x7.length : Int) then (darningref1_Run.j1 k x0 x1 x7 x15 (x7.length : Int) y124 ((rd x7 (wrap64 ((x7.length : Int) - 1))) != 0) x13 x14 x15) else (none)) else (none)) else (darningref1_Run.j1 k x0 x1 x7 x15 (x7.length : Int) y124 false x13 x14 x15)) else (if ((rd_T50 x13 x15).f0) = 4 then (if (x7.length : Int) ≥ 1 then (if 0 ≤ (wrap64 ((x7.length : Int) - 1)) then (if (wrap64 ((x7.length : Int) - 1)) < (x7.length : Int) then (if (rd x7 (wrap64 ((x7.length : Int) - 1))) ≥ 0 then (darningref1_Run.j2 k x0 x1 x7 x15 (x7.length : Int) y124 (decide ((rd x7 (wrap64 ((x7.length : Int) - 1))) < (x0.length : Int))) x13 x14 x15) else (darningref1_Run.j2 k x0 x1 x7 x15 (x7.length : Int) y124 false x13 x14 x15)) else (none)) else (none)) else (darningref1_Run.j2 k x0 x1 x7 x15 (x7.length : Int) y124 false x13 x14 x15)) else (if ((rd_T50 x13 x15).f0) = 5 then (if (x7.length : Int) ≥ 1 then (if 0 ≤ (wrap64 ((x7.length : Int) - 1)) then (if (wrap64 ((x7.length : Int) - 1)) ≤ (y124.length : Int) then (if ((x7.length : Int) ≥ 1) then (darningref1_Run.l0 k x0 x1 (y124.take ((wrap64 ((x7.length : Int) - 1)) : Int).toNat) x13 x14 (wrap64 (x15 + 1))) else (some (x7, x15, false))) else (none)) else (none)) else (if ((x7.length : Int) ≥ 1) then (darningref1_Run.l0 k x0 x1 y124 x13 x14 (wrap64 (x15 + 1))) else (some (x7, x15, false)))) else (some (x7, x15, false)))))))) else (none)) else (none)) else (none)) else (some (x7, (x1.length : Int), true))
def darningref1_Run.j1 : Nat → List Int → List (S50) → List Int → Int → Int → List Int → Bool → List (S50) → Int → Int → Option (List Int × Int × Bool)
  | 0, _, _, _, _, _, _, _, _, _, _ => none
  | k + 1, x0, x1, x7, x8, x10, x11, x12, x13, x14, x15 => if x12 = true then (if 0 ≤ (wrap64 (x10 - 2)) then (if (wrap64 (x10 - 2)) ≤ (x11.length : Int) then ((some (x11.take ((wrap64 (x10 - 2)) : Int).toNat : List Int)).bind fun y139 => (if (wrap64 (x10 - 2)) < (x7.length : Int) then (if 0 ≤ (wrap64 (x10 - 1)) then (if (wrap64 (x10 - 1)) < (x7.length : Int) then (if (rd x7 (wrap64 (x10 - 1))) = 0 then (none) else (if y139.length < 17592186044416 then (darningref1_Run.l0 k x0 x1 (y139 ++ [wrap64 (Int.tdiv (rd x7 (wrap64 (x10 - 2))) (rd x7 (wrap64 (x10 - 1))))]) x13 x14 (wrap64 (x15 + 1))) else (none))) else (none)) else (none)) else (none))) else (none)) else (none)) else (some (x7, x8, false))
def darningref1_Run.j2 : Nat → List Int → List (S50) → List Int → Int → Int → List Int → Bool → List (S50) → Int → Int → Option (List Int × Int × Bool)
  | 0, _, _, _, _, _, _, _, _, _, _ => none
  | k + 1, x0, x1, x7, x8, x10, x11, x12, x13, x14, x15 => if x12 = true then (if 0 ≤ (wrap64 (x10 - 1)) then (if (wrap64 (x10 - 1)) < (x7.length : Int) then (if 0 ≤ (rd x7 (wrap64 (x10 - 1))) then (if (rd x7 (wrap64 (x10 - 1))) < (x0.length : Int) then (if (wrap64 (x10 - 1)) < (x11.length : Int) then (darningref1_Run.l0 k x0 x1 (x11.set ((wrap64 (x10 - 1)) : Int).toNat (rd x0 (rd x7 (wrap64 (x10 - 1))))) x13 x14 (wrap64 (x15 + 1))) else (none)) else (none)) else (none)) else (none)) else (none)) else (some (x7, x8, false))
end
def darningref1_Run.f (k : Nat) (l0 : List Int) (l1 : List (S50)) : Option (List Int × Int × Bool) := darningref1_Run.l0 k l0 l1 ([] : List Int) l1 (l1.length : Int) 0
theorem darningref1_Run.mono_l : ∀ k, (∀ y0 y1 y2 y3 y4 y5, LeO (darningref1_Run.l0 k y0 y1 y2 y3 y4 y5) (darningref1_Run.l0 (k + 1) y0 y1 y2 y3 y4 y5)) ∧ (∀ y0 y1 y2 y3 y4 y5 y6 y7 y8 y9, LeO (darningref1_Run.j1 k y0 y1 y2 y3 y4 y5 y6 y7 y8 y9) (darningref1_Run.j1 (k + 1) y0 y1 y2 y3 y4 y5 y6 y7 y8 y9)) ∧ (∀ y0 y1 y2 y3 y4 y5 y6 y7 y8 y9, LeO (darningref1_Run.j2 k y0 y1 y2 y3 y4 y5 y6 y7 y8 y9) (darningref1_Run.j2 (k + 1) y0 y1 y2 y3 y4 y5 y6 y7 y8 y9))
  | 0 => ⟨fun _ _ _ _ _ _ r h => by simp [darningref1_Run.l0] at h, fun _ _ _ _ _ _ _ _ _ _ r h => by simp [darningref1_Run.j1] at h, fun _ _ _ _ _ _ _ _ _ _ r h => by simp [darningref1_Run.j2] at h⟩
  | k + 1 => by
    obtain ⟨ih0, ih1, ih2⟩ := darningref1_Run.mono_l k
    refine ⟨?_, ?_, ?_⟩
    · intro y0 y1 y2 y3 y4 y5
      unfold darningref1_Run.l0
      repeat' first
      | (with_reducible exact ih0 _ _ _ _ _ _)
      | (with_reducible exact ih1 _ _ _ _ _ _ _ _ _ _)
      | (with_reducible exact ih2 _ _ _ _ _ _ _ _ _ _)
      | (with_reducible exact LeO.refl _)
      | (with_reducible exact LeO.none _)
      | (with_reducible refine LeO.ite ?_ ?_)
      | (with_reducible refine LeO.bind ?_ (fun _ => ?_))
      | exact ih0 _ _ _ _ _ _
      | exact ih1 _ _ _ _ _ _ _ _ _ _
      | exact ih2 _ _ _ _ _ _ _ _ _ _
      | exact LeO.none _
      | refine LeO.ite ?_ ?_
      | refine LeO.bind ?_ (fun _ => ?_)
    · intro y0 y1 y2 y3 y4 y5 y6 y7 y8 y9
      unfold darningref1_Run.j1
      repeat' first
      | (with_reducible exact ih0 _ _ _ _ _ _)
      | (with_reducible exact ih1 _ _ _ _ _ _ _ _ _ _)
      | (with_reducible exact ih2 _ _ _ _ _ _ _ _ _ _)
      | (with_reducible exact LeO.refl _)
      | (with_reducible exact LeO.none _)
      | (with_reducible refine LeO.ite ?_ ?_)
      | (with_reducible refine LeO.bind ?_ (fun _ => ?_))
      | exact ih0 _ _ _ _ _ _
      | exact ih1 _ _ _ _ _ _ _ _ _ _
      | exact ih2 _ _ _ _ _ _ _ _ _ _
      | exact LeO.none _
      | refine LeO.ite ?_ ?_
      | refine LeO.bind ?_ (fun _ => ?_)
    · intro y0 y1 y2 y3 y4 y5 y6 y7 y8 y9
      unfold darningref1_Run.j2
      repeat' first
      | (with_reducible exact ih0 _ _ _ _ _ _)
      | (with_reducible exact ih1 _ _ _ _ _ _ _ _ _ _)
      | (with_reducible exact ih2 _ _ _ _ _ _ _ _ _ _)
      | (with_reducible exact LeO.refl _)
      | (with_reducible exact LeO.none _)
      | (with_reducible refine LeO.ite ?_ ?_)
      | (with_reducible refine LeO.bind ?_ (fun _ => ?_))
      | exact ih0 _ _ _ _ _ _
      | exact ih1 _ _ _ _ _ _ _ _ _ _
      | exact ih2 _ _ _ _ _ _ _ _ _ _
      | exact LeO.none _
      | refine LeO.ite ?_ ?_
      | refine LeO.bind ?_ (fun _ => ?_)
theorem darningref1_Run.mono : ∀ a0 a1 k, LeO (darningref1_Run.f k a0 a1) (darningref1_Run.f (k + 1) a0 a1) := by
  intro a0 a1 k
  obtain ⟨ih0, ih1, ih2⟩ := darningref1_Run.mono_l k
  unfold darningref1_Run.f
  repeat' first
      | (with_reducible exact ih0 _ _ _ _ _ _)
      | (with_reducible exact ih1 _ _ _ _ _ _ _ _ _ _)
      | (with_reducible exact ih2 _ _ _ _ _ _ _ _ _ _)
      | (with_reducible exact LeO.refl _)
      | (with_reducible exact LeO.none _)
      | (with_reducible refine LeO.ite ?_ ?_)
      | (with_reducible refine LeO.bind ?_ (fun _ => ?_))
      | exact ih0 _ _ _ _ _ _
      | exact ih1 _ _ _ _ _ _ _ _ _ _
      | exact ih2 _ _ _ _ _ _ _ _ _ _
      | exact LeO.none _
      | refine LeO.ite ?_ ?_
      | refine LeO.bind ?_ (fun _ => ?_)
def darningref1_Run.T14 : Bool × List (List Nat × List Nat) := (true, [([], []), ([], []), ([1], [1]), ([0, 2], [0, 2]), ([], []), ([], []), ([5], [5]), ([4, 6], [4, 6]), ([7], [7]), ([], []), ([], []), ([10], [10]), ([9, 11], [9, 11]), ([12], [12]), ([8, 13], [8, 13]), ([14], [14]), ([3, 15], [3, 15]), ([16, 16, 0, 1, 2, 3, 4, 5, 6, 7, 8, 9, 10, 11, 12, 13, 14, 15, 16], [0, 16])])
def darningref1_Run.B14 : List Nat := [0, 0, 2, 7, 0, 0, 32, 112, 240, 0, 0, 1024, 3584, 7680, 16368, 32752, 65535, 131071]
theorem darningref1_Run.tab14 : rtab .any (opsOf Try.f34 14) = darningref1_Run.T14 := by kernel_rfl
theorem darningref1_Run.bits14 : waitsOk darningref1_Run.T14.2 darningref1_Run.B14 = true := by kernel_rfl
def darningref1_Run.T18 : Bool × List (List Nat × List Nat) := (true, [([], []), ([], []), ([1], [1]), ([0, 2], [0, 2]), ([], []), ([], []), ([5], [5]), ([4, 6], [4, 6]), ([7], [7]), ([], []), ([], []), ([10], [10]), ([9, 11], [9, 11]), ([12], [12]), ([8, 13], [8, 13]), ([14], [14]), ([3, 15], [3, 15]), ([16, 16, 0, 1, 2, 3, 4, 5, 6, 7, 8, 9, 10, 11, 12, 13, 14, 15, 16], [0, 16])])
def darningref1_Run.B18 : List Nat := [0, 0, 2, 7, 0, 0, 32, 112, 240, 0, 0, 1024, 3584, 7680, 16368, 32752, 65535, 131071]
theorem darningref1_Run.tab18 : rtab .any (opsOf Try.f34 18) = darningref1_Run.T18 := by kernel_rfl
theorem darningref1_Run.bits18 : waitsOk darningref1_Run.T18.2 darningref1_Run.B18 = true := by kernel_rfl
set_option maxHeartbeats 8000000 in
set_option maxRecDepth 100000 in
theorem darningref1_Run.calls (k : Nat) (A0 : Option Addr) (c0 : Nat) (l0 : List Int) (A1 : Option Addr) (c1 : Nat) (l1 : List (S50)) (r1 : List Int) (r2 : Int) (r3 : Bool) (w : World) (hr0 : Kd.C (Kd.int .i64) w A0 l0.length l0) (hc0 : l0.length ≤ c0) (hr1 : Kd.C k50 w A1 l1.length l1) (hc1 : l1.length ≤ c1) (h : darningref1_Run.f k l0 l1 = some (r1, r2, r3)) :
    Calls Try.prog 34 #[.slice A0 l0.length c0, .slice A1 l1.length c1] w fun e w' => ∃ v0_ : Value, e = .returned (.tuple #[v0_, .int .i64 r2, .bool r3]) ∧ Kd.R (Kd.int .i64) 3 w' w.heap.size (fun _ => True) v0_ r1 ∧ Below w.heap.size w w' := by
  have hu50 := Try.underlying50
  have HR0 := Aside0.mk hr0
  have HC0 := Aside0.mk hc0
  clear hr0 hc0
  have HR1 := Aside0.mk hr1
  have HC1 := Aside0.mk hc1
  clear hr1 hc1
  have HB := Aside0.mk (Below.refl w.heap.size w)
  have H : (darningref1_Run.l0 k l0 l1 ([] : List Int) l1 (l1.length : Int) 0) = some (r1, r2, r3) := h
  clear h
  have H' := Aside0.mk H
  clear H
  go_enter Try.func34, Try.ntmps34
  go_wp2
  go_loopg [7, 15] k (fun kq v7 v15 w' => ∃ (x7_1 : List Int) (x15_1 : Int), v15 = .int .i64 x15_1 ∧ Aside0 (darningref1_Run.l0 kq l0 l1 x7_1 l1 (l1.length : Int) x15_1 = some (r1, r2, r3)) ∧ Aside0 (kq ≤ k) ∧ Aside0 (Kd.R (Kd.int .i64) 3 w' w.heap.size (fun _ => True) v7 x7_1) ∧ Aside0 (Below w.heap.size w w'))
  case atStart => exact ⟨(([] : List Int)), (0), (by first | rfl | (simp; done) | (simp [*]; done)), H', ⟨Nat.le_refl _⟩, ⟨by first | exact Kd.R_nil _ _ _ _ _ | exact Kd.N_nil _ _ _ _ _ | exact Kd.V_nil _ _ _ _ _ | exact Kd.Q_nil _ _ _ _ _ | exact Kd.S_nil _ _ _ _ _⟩, ⟨by repeat (first | (with_reducible first | exact HB.out | apply below_alloc | apply pw_below_drewN | apply below_drew1) | exact HB.out)⟩⟩
  case round =>
    clear H'
    try clear c1
    try clear p2
    obtain ⟨x7_1, x15_1, rfl, HA, HK1, HO_7, HB⟩ := hrel
    cases gk with
    | zero => exact absurd HA.out (by simp [darningref1_Run.l0])
    | succ k1 =>
      have H := HA.out
      clear HA
      simp only [darningref1_Run.l0] at H
      by_cases c3 : x15_1 < (l1.length : Int)
      · rw [if_pos c3] at H
        have c3b0 : decide (x15_1 < (l1.length : Int)) = true := decide_eq_true c3
        clear c3
        by_cases c4 : 0 ≤ x15_1
        · rw [if_pos c4] at H
          have c4b0 : decide (0 ≤ x15_1) = true := decide_eq_true c4
          clear c4
          by_cases c5 : x15_1 < (l1.length : Int)
          · rw [if_pos c5] at H
            have c5b0 : decide (x15_1 < (l1.length : Int)) = true := decide_eq_true c5
            clear c5
            by_cases c6 : ([] : List Int).length + x7_1.length < 17592186044416
            · rw [if_pos c6] at H
              have LMc6 := Aside0.mk c6
              clear c6
              obtain ⟨y124, hy124⟩ : ∃ y_ : List Int, y_ = (([] : List Int) ++ x7_1) := ⟨_, rfl⟩
              replace H : (if ((rd_T50 l1 x15_1).f0) = 1 then (if y124.length < 17592186044416 then (if ((x7_1.length : Int) < 1000) then (darningref1_Run.l0 k1 l0 l1 (y124 ++ [(rd_T50 l1 x15_1).f1]) l1 (l1.length : Int) (wrap64 (x15_1 + 1))) else (some (x7_1, x15_1, false))) else (none)) else (if ((rd_T50 l1 x15_1).f0) = 2 then (if (x7_1.length : Int) ≥ 2 then (if 0 ≤ (wrap64 ((x7_1.length : Int) - 2)) then (if (wrap64 ((x7_1.length : Int) - 2)) ≤ (y124.length : Int) then ((some (y124.take ((wrap64 ((x7_1.length : Int) - 2)) : Int).toNat : List Int)).bind fun y130 => (if (wrap64 ((x7_1.length : Int) - 2)) < (x7_1.length : Int) then (if 0 ≤ (wrap64 ((x7_1.length : Int) - 1)) then (if (wrap64 ((x7_1.length : Int) - 1)) < (x7_1.length : Int) then (if y130.length < 17592186044416 then (if ((x7_1.length : Int) ≥ 2) then (darningref1_Run.l0 k1 l0 l1 (y130 ++ [wrap64 ((rd x7_1 (wrap64 ((x7_1.length : Int) - 2))) + (rd x7_1 (wrap64 ((x7_1.length : Int) - 1))))]) l1 (l1.length : Int) (wrap64 (x15_1 + 1))) else (some (x7_1, x15_1, false))) else (none)) else (none)) else (none)) else (none))) else (none)) else (none)) else (if ((x7_1.length : Int) ≥ 2) then (darningref1_Run.l0 k1 l0 l1 y124 l1 (l1.length : Int) (wrap64 (x15_1 + 1))) else (some (x7_1, x15_1, false)))) else (if ((rd_T50 l1 x15_1).f0) = 3 then (if (x7_1.length : Int) ≥ 2 then (if 0 ≤ (wrap64 ((x7_1.length : Int) - 1)) then (if (wrap64 ((x7_1.length : Int) - 1)) < (x7_1.length : Int) then (darningref1_Run.j1 k1 l0 l1 x7_1 x15_1 (x7_1.length : Int) y124 ((rd x7_1 (wrap64 ((x7_1.length : Int) - 1))) != 0) l1 (l1.length : Int) x15_1) else (none)) else (none)) else (darningref1_Run.j1 k1 l0 l1 x7_1 x15_1 (x7_1.length : Int) y124 false l1 (l1.length : Int) x15_1)) else (if ((rd_T50 l1 x15_1).f0) = 4 then (if (x7_1.length : Int) ≥ 1 then (if 0 ≤ (wrap64 ((x7_1.length : Int) - 1)) then (if (wrap64 ((x7_1.length : Int) - 1)) < (x7_1.length : Int) then (if (rd x7_1 (wrap64 ((x7_1.length : Int) - 1))) ≥ 0 then (darningref1_Run.j2 k1 l0 l1 x7_1 x15_1 (x7_1.length : Int) y124 (decide ((rd x7_1 (wrap64 ((x7_1.length : Int) - 1))) < (l0.length : Int))) l1 (l1.length : Int) x15_1) else (darningref1_Run.j2 k1 l0 l1 x7_1 x15_1 (x7_1.length : Int) y124 false l1 (l1.length : Int) x15_1)) else (none)) else (none)) else (darningref1_Run.j2 k1 l0 l1 x7_1 x15_1 (x7_1.length : Int) y124 false l1 (l1.length : Int) x15_1)) else (if ((rd_T50 l1 x15_1).f0) = 5 then (if (x7_1.length : Int) ≥ 1 then (if 0 ≤ (wrap64 ((x7_1.length : Int) - 1)) then (if (wrap64 ((x7_1.length : Int) - 1)) ≤ (y124.length : Int) then (if ((x7_1.length : Int) ≥ 1) then (darningref1_Run.l0 k1 l0 l1 (y124.take ((wrap64 ((x7_1.length : Int) - 1)) : Int).toNat) l1 (l1.length : Int) (wrap64 (x15_1 + 1))) else (some (x7_1, x15_1, false))) else (none)) else (none)) else (if ((x7_1.length : Int) ≥ 1) then (darningref1_Run.l0 k1 l0 l1 y124 l1 (l1.length : Int) (wrap64 (x15_1 + 1))) else (some (x7_1, x15_1, false)))) else (some (x7_1, x15_1, false))))))) = some (r1, r2, r3) := by first | (rw [hy124]; with_reducible exact H) | (have H2_ := (Option.bind_some _ _).symm.trans H; rw [hy124]; with_reducible exact H2_) | (have H2_ := (Option.bind_some _ _).symm.trans H; with_reducible exact H2_) | with_reducible exact H | (rw [hy124]; exact H) | exact H
              have Ny124 := Aside0.mk hy124
              clear hy124
              by_cases c7 : ((rd_T50 l1 x15_1).f0) = 1
              · rw [if_pos c7] at H
                have c7b0 : (((rd_T50 l1 x15_1).f0) == 1) = true := beq_iff_eq.mpr c7
                have c7b1 : (((rd_T50 l1 x15_1).f0) != 1) = false := bne_eq_false_iff_eq.mpr c7
                clear c7
                by_cases c8 : y124.length < 17592186044416
                · rw [if_pos c8] at H
                  have LMc8 := Aside0.mk c8
                  clear c8
                  obtain ⟨y127, hy127⟩ : ∃ y_ : List Int, y_ = (y124 ++ [(rd_T50 l1 x15_1).f1]) := ⟨_, rfl⟩
                  replace H : (if ((x7_1.length : Int) < 1000) then (darningref1_Run.l0 k1 l0 l1 y127 l1 (l1.length : Int) (wrap64 (x15_1 + 1))) else (some (x7_1, x15_1, false))) = some (r1, r2, r3) := by first | (rw [hy127]; with_reducible exact H) | (have H2_ := (Option.bind_some _ _).symm.trans H; rw [hy127]; with_reducible exact H2_) | (have H2_ := (Option.bind_some _ _).symm.trans H; with_reducible exact H2_) | with_reducible exact H | (rw [hy127]; exact H) | exact H
                  have Ny127 := Aside0.mk hy127
                  clear hy127
                  by_cases c9 : ((x7_1.length : Int) < 1000)
                  · rw [if_pos c9] at H
                    have c9b0 : decide ((x7_1.length : Int) < 1000) = true := decide_eq_true c9
                    have c9b1 : decide (x7_1.length < 1000) = true := decide_eq_true (by omega)
                    clear c9
                    have H' := Aside0.mk H
                    clear H
                    have p122 : 0 ≤ (x15_1 : Int) := of_decide_eq_true (by first | (with_reducible assumption) | assumption)
                    have q122 : x15_1 < (l1.length : Int) := of_decide_eq_true (by first | (with_reducible assumption) | assumption)
                    obtain ⟨ad122, e122, hx122_0, hx122_1⟩ := at_T50 HR1.out x15_1 p122 q122
                    cases e122
                    replace hx122_0 := (HB.out.cell (World.block_lt_of_cell? w _ hx122_0)).trans hx122_0
                    replace hx122_1 := (HB.out.cell (World.block_lt_of_cell? w _ hx122_1)).trans hx122_1
                    replace p122 := eq_true p122
                    replace q122 := eq_true q122
                    go_wp2_with (first | ((with_reducible refine gate_dst (N := 9) rfl ?_); (try (refine gate_guard (by rfl) ?_; dsimp only)); refine box_event ?hg (N := 9) ?hd (cs := #[.int .i64 0, .int .i64 0]) (t := 50) ?hr ?_; (case hd => rfl); (case hg => rfl); (case hr => first | (go_simp; done) | (go_simp; rfl)); intro gb123 hg w10 hbox hb; have n0_ := Aside0.mk (Kd.R_below (by (with_reducible repeat (first | apply Kd.R_alloc | apply Kd.R_drewN | apply Kd.R_drew)); exact HO_7.out) hb); have n1_ := Aside0.mk (below_step (by repeat (first | (with_reducible first | exact HB.out | apply below_alloc | apply pw_below_drewN | apply below_drew1) | exact HB.out)) hb); have n2_ := Aside0.mk (hbox); have n3_ := Aside0.mk ((by rw [hg]; exact (below_size (by repeat (first | (with_reducible first | exact HB.out | apply below_alloc | apply pw_below_drewN | apply below_drew1) | exact HB.out))) : w.heap.size ≤ gb123)); have n4_ := Aside0.mk ((by rw [hg]; exact (below_size (by repeat (first | (with_reducible first | exact HB.out | apply below_alloc | apply pw_below_drewN | apply below_drew1) | exact HB.out))) : w.heap.size ≤ gb123)); clear HO_7; clear HB; have HO_7 := n0_; have HB := n1_; have BK123 := n2_; have GW123 := n3_; have GE123 := n4_; clear n0_ n1_ n2_ n3_ n4_; clear hb hbox hg; have hcz11_0 : w10.cell? ⟨gb123, 0, none⟩ = some (.int .i64 0) := (blk_cell BK123.out 0).trans rfl; have hcz11_1 : w10.cell? ⟨gb123, 1, none⟩ = some (.int .i64 0) := (blk_cell BK123.out 1).trans rfl; have hfz11_0 := blk_frozen BK123.out 0; have hfz11_1 := blk_frozen BK123.out 1; obtain ⟨Ao12, co12, eo12⟩ := Kd.R_slice HO_7.out; subst eo12) | ((with_reducible refine gate_builtin (b := .append) (xs := #[.const (.slice none 0 0), .tmp 22]) rfl ?_); (try (refine gate_guard (by rfl) ?_; dsimp only)); at_builtin; refine Kd.R_append_rows (Kd.int .i64) (w0 := w) w.heap.size rfl (.const (.slice none 0 0)) (.tmp 22) 32 3 (.int .i64 0) 8 rfl Try.underlying32 info3 rfl (by decide) (by omega) (.slice none 0 0) ([] : List Int) x7_1 _ _ _ (fun k_ => some k_ ≠ (.slice Ao12 x7_1.length co12 : Value).ownBlock) (fun _ => False) rfl rfl ?aO ?aR (fun _ _ h => h) (fun _ h => h.elim) ?aF ?aB ?aS ?aL ?_; (case aR => refine (Kd.R_reads' (e := 3) (base := w.heap.size) (ok := fun k_ => True) (n := x7_1.length) (c := co12) ?_).2.2; exact (by (with_reducible repeat (first | apply Kd.R_alloc | apply Kd.R_drewN | apply Kd.R_drew)); exact (Kd.R_mono (Kd.R_far (p := ⟨gb123, 1, none⟩) (Kd.R_far (p := ⟨gb123, 0, none⟩) (Kd.R_types HO_7.out BK123.out (by decide)) (fun _ hk => hk.2) (.int .i64 ((rd_T50 l1 x15_1).f0))) (fun _ hk => hk.2) (.int .i64 ((rd_T50 l1 x15_1).f1))) (fun _ h_ => h_.1)))); (case aB => exact (by repeat (first | (with_reducible first | exact HB.out | apply below_alloc | apply pw_below_drewN | apply below_drew1 | refine below_set ?_ GE123.out) | exact HB.out))); (case aF => exact (fun k_ hk => Kd.fresh' (Kd.R_lt (by (with_reducible repeat (first | apply Kd.R_alloc | apply Kd.R_drewN | apply Kd.R_drew)); exact (Kd.R_mono (Kd.R_far (p := ⟨gb123, 1, none⟩) (Kd.R_far (p := ⟨gb123, 0, none⟩) (Kd.R_types HO_7.out BK123.out (by decide)) (fun _ hk => hk.2) (.int .i64 ((rd_T50 l1 x15_1).f0))) (fun _ hk => hk.2) (.int .i64 ((rd_T50 l1 x15_1).f1))) (fun _ h_ => h_.1)))) k_ hk)); (case aO => exact ((Kd.R_nil _ _ _ _ (fun k_ => some k_ ≠ (.slice Ao12 x7_1.length co12 : Value).ownBlock)))); (case aS => exact (below_size (by repeat (first | (with_reducible first | exact HB.out | apply below_alloc | apply pw_below_drewN | apply below_drew1 | refine below_set ?_ GE123.out) | exact HB.out)))); (case aL => have := LMc6.out; omega); intro v125 w13 ho hb hg hat; rw [← Ny124.out] at ho; have n0_ := Aside0.mk (Kd.R_after (Kd.R_apart_nil (by (with_reducible repeat (first | apply Kd.R_alloc | apply Kd.R_drewN | apply Kd.R_drew)); exact (Kd.R_mono (Kd.R_far (p := ⟨gb123, 1, none⟩) (Kd.R_far (p := ⟨gb123, 0, none⟩) (Kd.R_types HO_7.out BK123.out (by decide)) (fun _ hk => hk.2) (.int .i64 ((rd_T50 l1 x15_1).f0))) (fun _ hk => hk.2) (.int .i64 ((rd_T50 l1 x15_1).f1))) (fun _ h_ => h_.1)))) hg hat); have n1_ := Aside0.mk (blk_grown (g := gb123) (o := .cells #[.int .i64 ((rd_T50 l1 x15_1).f0), .int .i64 ((rd_T50 l1 x15_1).f1)] 50 (0, 0)) (by (with_reducible repeat (first | refine blk_drewN ?_ _ | refine blk_drew ?_ | refine blk_alloc ?_ _)); refine blk_put (cs := #[.int .i64 ((rd_T50 l1 x15_1).f0), .int .i64 0]) ?_ 1 _ rfl; (with_reducible repeat (first | refine blk_drewN ?_ _ | refine blk_drew ?_ | refine blk_alloc ?_ _)); refine blk_put (cs := #[.int .i64 0, .int .i64 0]) ?_ 0 _ rfl; (with_reducible repeat (first | refine blk_drewN ?_ _ | refine blk_drew ?_ | refine blk_alloc ?_ _)); exact BK123.out) hg (by simp [Value.ownBlock])); have n2_ := Aside0.mk (hb); have n3_ := Aside0.mk (ho); clear HO_7; clear BK123; clear HB; have HO_7 := n0_; have BK123 := n1_; have HB := n2_; have HO126 := n3_; clear n0_ n1_ n2_ n3_; clear ho hb hg hat; have hcz14_0 : w13.cell? ⟨gb123, 0, none⟩ = some (.int .i64 ((rd_T50 l1 x15_1).f0)) := (blk_cell BK123.out 0).trans rfl; have hcz14_1 : w13.cell? ⟨gb123, 1, none⟩ = some (.int .i64 ((rd_T50 l1 x15_1).f1)) := (blk_cell BK123.out 1).trans rfl; have hfz14_0 := blk_frozen BK123.out 0; have hfz14_1 := blk_frozen BK123.out 1) | ((with_reducible refine gate_builtin (b := .append) (xs := #[.tmp 28, .tmp 31]) rfl ?_); (try (refine gate_guard (by rfl) ?_; dsimp only)); at_builtin; refine Kd.R_append (Kd.int .i64) (w0 := w) w.heap.size rfl (.tmp 28) (.tmp 31) 32 3 (.int .i64 0) 8 rfl Try.underlying32 info3 rfl (by decide) (by omega) v125 y124 ((rd_T50 l1 x15_1).f1) [.int .i64 ((rd_T50 l1 x15_1).f1)] (fun k_ => some k_ ≠ (.slice Ao12 x7_1.length co12 : Value).ownBlock) (fun _ => False) rfl rfl ?aP (fun _ hk => hk.elim) ?aF ?aO ?aB ?aS ?aL ?_; (case aP => exact rfl); (case aB => exact (by repeat (first | (with_reducible first | exact HB.out | apply below_alloc | apply pw_below_drewN | apply below_drew1 | refine below_set ?_ GE123.out) | exact HB.out))); (case aF => exact (fun k_ hk => Kd.fresh' (Kd.R_lt (by (with_reducible repeat (first | apply Kd.R_alloc | apply Kd.R_drewN | apply Kd.R_drew)); exact HO_7.out)) k_ hk)); (case aO => exact (by (with_reducible repeat (first | apply Kd.R_alloc | apply Kd.R_drewN | apply Kd.R_drew)); exact HO126.out)); (case aS => exact (below_size (by repeat (first | (with_reducible first | exact HB.out | apply below_alloc | apply pw_below_drewN | apply below_drew1 | refine below_set ?_ GE123.out) | exact HB.out)))); (case aL => have := LMc8.out; omega); intro v128 w15 ho hb hg hat; rw [← Ny127.out] at ho; have n0_ := Aside0.mk (Kd.R_after (ok := (fun _ => True)) (by (with_reducible repeat (first | apply Kd.R_alloc | apply Kd.R_drewN | apply Kd.R_drew)); exact HO_7.out) hg hat); have n1_ := Aside0.mk (blk_grown (g := gb123) (o := .cells #[.int .i64 ((rd_T50 l1 x15_1).f0), .int .i64 ((rd_T50 l1 x15_1).f1)] 50 (0, 0)) (by (with_reducible repeat (first | refine blk_drewN ?_ _ | refine blk_drew ?_ | refine blk_alloc ?_ _)); exact BK123.out) hg (Kd.R_ne HO126.out BK123.out (by decide))); have n2_ := Aside0.mk (hb); have n3_ := Aside0.mk (ho); clear HO_7; clear BK123; clear HB; clear HO126; have HO_7 := n0_; have BK123 := n1_; have HB := n2_; have HO129 := n3_; clear n0_ n1_ n2_ n3_; clear ho hb hg hat))
                    go_roundg k1
                    case measure => have := HK1.out; omega
                    case rel => exact ⟨(y127), (wrap64 (x15_1 + 1)), (by first | rfl | (simp; done) | (simp [*]; done)), H', ⟨by have := HK1.out; omega⟩, ⟨by (with_reducible repeat (first | apply Kd.R_alloc | apply Kd.R_drewN | apply Kd.R_drew)); exact Kd.R_mono HO129.out (fun _ hk => trivial)⟩, ⟨by repeat (first | (with_reducible first | exact HB.out | apply below_alloc | apply pw_below_drewN | apply below_drew1 | refine below_set ?_ GE123.out) | exact HB.out)⟩⟩
                  · rw [if_neg c9] at H
                    have c9b0 : decide ((x7_1.length : Int) < 1000) = false := decide_eq_false c9
                    have c9b1 : decide (x7_1.length < 1000) = false := decide_eq_false (by omega)
                    clear c9
                    simp only [Option.some.injEq, Prod.mk.injEq] at H
                    obtain ⟨rfl, rfl, rfl⟩ := H
                    have p122 : 0 ≤ (x15_1 : Int) := of_decide_eq_true (by first | (with_reducible assumption) | assumption)
                    have q122 : x15_1 < (l1.length : Int) := of_decide_eq_true (by first | (with_reducible assumption) | assumption)
                    obtain ⟨ad122, e122, hx122_0, hx122_1⟩ := at_T50 HR1.out x15_1 p122 q122
                    cases e122
                    replace hx122_0 := (HB.out.cell (World.block_lt_of_cell? w _ hx122_0)).trans hx122_0
                    replace hx122_1 := (HB.out.cell (World.block_lt_of_cell? w _ hx122_1)).trans hx122_1
                    replace p122 := eq_true p122
                    replace q122 := eq_true q122
                    go_wp2_with (first | ((with_reducible refine gate_dst (N := 9) rfl ?_); (try (refine gate_guard (by rfl) ?_; dsimp only)); refine box_event ?hg (N := 9) ?hd (cs := #[.int .i64 0, .int .i64 0]) (t := 50) ?hr ?_; (case hd => rfl); (case hg => rfl); (case hr => first | (go_simp; done) | (go_simp; rfl)); intro gb123 hg w16 hbox hb; have n0_ := Aside0.mk (Kd.R_below (by (with_reducible repeat (first | apply Kd.R_alloc | apply Kd.R_drewN | apply Kd.R_drew)); exact HO_7.out) hb); have n1_ := Aside0.mk (below_step (by repeat (first | (with_reducible first | exact HB.out | apply below_alloc | apply pw_below_drewN | apply below_drew1) | exact HB.out)) hb); have n2_ := Aside0.mk (hbox); have n3_ := Aside0.mk ((by rw [hg]; exact (below_size (by repeat (first | (with_reducible first | exact HB.out | apply below_alloc | apply pw_below_drewN | apply below_drew1) | exact HB.out))) : w.heap.size ≤ gb123)); have n4_ := Aside0.mk ((by rw [hg]; exact (below_size (by repeat (first | (with_reducible first | exact HB.out | apply below_alloc | apply pw_below_drewN | apply below_drew1) | exact HB.out))) : w.heap.size ≤ gb123)); clear HO_7; clear HB; have HO_7 := n0_; have HB := n1_; have BK123 := n2_; have GW123 := n3_; have GE123 := n4_; clear n0_ n1_ n2_ n3_ n4_; clear hb hbox hg; have hcz17_0 : w16.cell? ⟨gb123, 0, none⟩ = some (.int .i64 0) := (blk_cell BK123.out 0).trans rfl; have hcz17_1 : w16.cell? ⟨gb123, 1, none⟩ = some (.int .i64 0) := (blk_cell BK123.out 1).trans rfl; have hfz17_0 := blk_frozen BK123.out 0; have hfz17_1 := blk_frozen BK123.out 1; obtain ⟨Ao18, co18, eo18⟩ := Kd.R_slice HO_7.out; subst eo18) | ((with_reducible refine gate_builtin (b := .append) (xs := #[.const (.slice none 0 0), .tmp 22]) rfl ?_); (try (refine gate_guard (by rfl) ?_; dsimp only)); at_builtin; refine Kd.R_append_rows (Kd.int .i64) (w0 := w) w.heap.size rfl (.const (.slice none 0 0)) (.tmp 22) 32 3 (.int .i64 0) 8 rfl Try.underlying32 info3 rfl (by decide) (by omega) (.slice none 0 0) ([] : List Int) x7_1 _ _ _ (fun k_ => some k_ ≠ (.slice Ao18 x7_1.length co18 : Value).ownBlock) (fun _ => False) rfl rfl ?aO ?aR (fun _ _ h => h) (fun _ h => h.elim) ?aF ?aB ?aS ?aL ?_; (case aR => refine (Kd.R_reads' (e := 3) (base := w.heap.size) (ok := fun k_ => True) (n := x7_1.length) (c := co18) ?_).2.2; exact (by (with_reducible repeat (first | apply Kd.R_alloc | apply Kd.R_drewN | apply Kd.R_drew)); exact (Kd.R_mono (Kd.R_far (p := ⟨gb123, 1, none⟩) (Kd.R_far (p := ⟨gb123, 0, none⟩) (Kd.R_types HO_7.out BK123.out (by decide)) (fun _ hk => hk.2) (.int .i64 ((rd_T50 l1 x15_1).f0))) (fun _ hk => hk.2) (.int .i64 ((rd_T50 l1 x15_1).f1))) (fun _ h_ => h_.1)))); (case aB => exact (by repeat (first | (with_reducible first | exact HB.out | apply below_alloc | apply pw_below_drewN | apply below_drew1 | refine below_set ?_ GE123.out) | exact HB.out))); (case aF => exact (fun k_ hk => Kd.fresh' (Kd.R_lt (by (with_reducible repeat (first | apply Kd.R_alloc | apply Kd.R_drewN | apply Kd.R_drew)); exact (Kd.R_mono (Kd.R_far (p := ⟨gb123, 1, none⟩) (Kd.R_far (p := ⟨gb123, 0, none⟩) (Kd.R_types HO_7.out BK123.out (by decide)) (fun _ hk => hk.2) (.int .i64 ((rd_T50 l1 x15_1).f0))) (fun _ hk => hk.2) (.int .i64 ((rd_T50 l1 x15_1).f1))) (fun _ h_ => h_.1)))) k_ hk)); (case aO => exact ((Kd.R_nil _ _ _ _ (fun k_ => some k_ ≠ (.slice Ao18 x7_1.length co18 : Value).ownBlock)))); (case aS => exact (below_size (by repeat (first | (with_reducible first | exact HB.out | apply below_alloc | apply pw_below_drewN | apply below_drew1 | refine below_set ?_ GE123.out) | exact HB.out)))); (case aL => have := LMc6.out; omega); intro v125 w19 ho hb hg hat; rw [← Ny124.out] at ho; have n0_ := Aside0.mk (Kd.R_after (Kd.R_apart_nil (by (with_reducible repeat (first | apply Kd.R_alloc | apply Kd.R_drewN | apply Kd.R_drew)); exact (Kd.R_mono (Kd.R_far (p := ⟨gb123, 1, none⟩) (Kd.R_far (p := ⟨gb123, 0, none⟩) (Kd.R_types HO_7.out BK123.out (by decide)) (fun _ hk => hk.2) (.int .i64 ((rd_T50 l1 x15_1).f0))) (fun _ hk => hk.2) (.int .i64 ((rd_T50 l1 x15_1).f1))) (fun _ h_ => h_.1)))) hg hat); have n1_ := Aside0.mk (blk_grown (g := gb123) (o := .cells #[.int .i64 ((rd_T50 l1 x15_1).f0), .int .i64 ((rd_T50 l1 x15_1).f1)] 50 (0, 0)) (by (with_reducible repeat (first | refine blk_drewN ?_ _ | refine blk_drew ?_ | refine blk_alloc ?_ _)); refine blk_put (cs := #[.int .i64 ((rd_T50 l1 x15_1).f0), .int .i64 0]) ?_ 1 _ rfl; (with_reducible repeat (first | refine blk_drewN ?_ _ | refine blk_drew ?_ | refine blk_alloc ?_ _)); refine blk_put (cs := #[.int .i64 0, .int .i64 0]) ?_ 0 _ rfl; (with_reducible repeat (first | refine blk_drewN ?_ _ | refine blk_drew ?_ | refine blk_alloc ?_ _)); exact BK123.out) hg (by simp [Value.ownBlock])); have n2_ := Aside0.mk (hb); have n3_ := Aside0.mk (ho); clear HO_7; clear BK123; clear HB; have HO_7 := n0_; have BK123 := n1_; have HB := n2_; have HO126 := n3_; clear n0_ n1_ n2_ n3_; clear ho hb hg hat; have hcz20_0 : w19.cell? ⟨gb123, 0, none⟩ = some (.int .i64 ((rd_T50 l1 x15_1).f0)) := (blk_cell BK123.out 0).trans rfl; have hcz20_1 : w19.cell? ⟨gb123, 1, none⟩ = some (.int .i64 ((rd_T50 l1 x15_1).f1)) := (blk_cell BK123.out 1).trans rfl; have hfz20_0 := blk_frozen BK123.out 0; have hfz20_1 := blk_frozen BK123.out 1) | ((with_reducible refine gate_builtin (b := .append) (xs := #[.tmp 28, .tmp 31]) rfl ?_); (try (refine gate_guard (by rfl) ?_; dsimp only)); at_builtin; refine Kd.R_append (Kd.int .i64) (w0 := w) w.heap.size rfl (.tmp 28) (.tmp 31) 32 3 (.int .i64 0) 8 rfl Try.underlying32 info3 rfl (by decide) (by omega) v125 y124 ((rd_T50 l1 x15_1).f1) [.int .i64 ((rd_T50 l1 x15_1).f1)] (fun k_ => some k_ ≠ (.slice Ao18 x7_1.length co18 : Value).ownBlock) (fun _ => False) rfl rfl ?aP (fun _ hk => hk.elim) ?aF ?aO ?aB ?aS ?aL ?_; (case aP => exact rfl); (case aB => exact (by repeat (first | (with_reducible first | exact HB.out | apply below_alloc | apply pw_below_drewN | apply below_drew1 | refine below_set ?_ GE123.out) | exact HB.out))); (case aF => exact (fun k_ hk => Kd.fresh' (Kd.R_lt (by (with_reducible repeat (first | apply Kd.R_alloc | apply Kd.R_drewN | apply Kd.R_drew)); exact HO_7.out)) k_ hk)); (case aO => exact (by (with_reducible repeat (first | apply Kd.R_alloc | apply Kd.R_drewN | apply Kd.R_drew)); exact HO126.out)); (case aS => exact (below_size (by repeat (first | (with_reducible first | exact HB.out | apply below_alloc | apply pw_below_drewN | apply below_drew1 | refine below_set ?_ GE123.out) | exact HB.out)))); (case aL => have := LMc8.out; omega); intro v128 w21 ho hb hg hat; rw [← Ny127.out] at ho; have n0_ := Aside0.mk (Kd.R_after (ok := (fun _ => True)) (by (with_reducible repeat (first | apply Kd.R_alloc | apply Kd.R_drewN | apply Kd.R_drew)); exact HO_7.out) hg hat); have n1_ := Aside0.mk (blk_grown (g := gb123) (o := .cells #[.int .i64 ((rd_T50 l1 x15_1).f0), .int .i64 ((rd_T50 l1 x15_1).f1)] 50 (0, 0)) (by (with_reducible repeat (first | refine blk_drewN ?_ _ | refine blk_drew ?_ | refine blk_alloc ?_ _)); exact BK123.out) hg (Kd.R_ne HO126.out BK123.out (by decide))); have n2_ := Aside0.mk (hb); have n3_ := Aside0.mk (ho); clear HO_7; clear BK123; clear HB; clear HO126; have HO_7 := n0_; have BK123 := n1_; have HB := n2_; have HO129 := n3_; clear n0_ n1_ n2_ n3_; clear ho hb hg hat))
                    go_ret3
                    exact ⟨_, by first | rfl | (simp [errW_none, errW_some] <;> rfl) | (simp [*, errW_none, errW_some] <;> rfl), by (with_reducible repeat (first | apply Kd.R_alloc | apply Kd.R_drewN | apply Kd.R_drew)); exact Kd.R_mono HO_7.out (fun _ hk => trivial), by repeat (first | (with_reducible first | exact HB.out | apply below_alloc | apply pw_below_drewN | apply below_drew1 | refine below_set ?_ GE123.out) | exact HB.out)⟩
                · rw [if_neg c8] at H
                  exact absurd H (by simp)
              · rw [if_neg c7] at H
                have c7b0 : (((rd_T50 l1 x15_1).f0) == 1) = false := beq_eq_false_iff_ne.mpr c7
                have c7b1 : (((rd_T50 l1 x15_1).f0) != 1) = true := bne_iff_ne.mpr c7
                by_cases c22 : ((rd_T50 l1 x15_1).f0) = 2
                · rw [if_pos c22] at H
                  have c22b0 : (((rd_T50 l1 x15_1).f0) == 2) = true := beq_iff_eq.mpr c22
                  have c22b1 : (((rd_T50 l1 x15_1).f0) != 2) = false := bne_eq_false_iff_eq.mpr c22
                  clear c22
                  by_cases c23 : (x7_1.length : Int) ≥ 2
                  · rw [if_pos c23] at H
                    have c23b0 : decide (2 ≤ (x7_1.length : Int)) = true := decide_eq_true c23
                    have c23b1 : decide (2 ≤ x7_1.length) = true := decide_eq_true (by omega)
                    clear c23
                    obtain ⟨ji24, hji24⟩ : ∃ j_ : Int, (wrap64 ((x7_1.length : Int) - 2)) = j_ := ⟨_, rfl⟩
                    replace H : (if 0 ≤ (ji24) then (if (ji24) ≤ (y124.length : Int) then ((some (y124.take ((ji24) : Int).toNat : List Int)).bind fun y130 => (if (ji24) < (x7_1.length : Int) then (if 0 ≤ (wrap64 ((x7_1.length : Int) - 1)) then (if (wrap64 ((x7_1.length : Int) - 1)) < (x7_1.length : Int) then (if y130.length < 17592186044416 then (if ((x7_1.length : Int) ≥ 2) then (darningref1_Run.l0 k1 l0 l1 (y130 ++ [wrap64 ((rd x7_1 (ji24)) + (rd x7_1 (wrap64 ((x7_1.length : Int) - 1))))]) l1 (l1.length : Int) (wrap64 (x15_1 + 1))) else (some (x7_1, x15_1, false))) else (none)) else (none)) else (none)) else (none))) else (none)) else (none)) = some (r1, r2, r3) := by first | (rw [hji24] at H; exact H) | (simp only [hji24] at H ⊢; exact H)
                    have hji24w : (IntKind.i64.wrap ((x7_1.length : Int) - 2)) = ji24 := (i64_w _).trans hji24
                    by_cases c25 : 0 ≤ (ji24)
                    · rw [if_pos c25] at H
                      have c25b0 := eq_true c25
                      have c25b1 : decide (0 ≤ (ji24)) = true := decide_eq_true c25
                      clear c25
                      by_cases c26 : (ji24) ≤ (y124.length : Int)
                      · rw [if_pos c26] at H
                        have c26b0 := eq_true c26
                        have c26b1 : decide ((ji24) ≤ (y124.length : Int)) = true := decide_eq_true c26
                        clear c26
                        obtain ⟨y130, hy130⟩ : ∃ y_ : List Int, y_ = (y124.take ((ji24) : Int).toNat) := ⟨_, rfl⟩
                        replace H : (if (ji24) < (x7_1.length : Int) then (if 0 ≤ (wrap64 ((x7_1.length : Int) - 1)) then (if (wrap64 ((x7_1.length : Int) - 1)) < (x7_1.length : Int) then (if y130.length < 17592186044416 then (if ((x7_1.length : Int) ≥ 2) then (darningref1_Run.l0 k1 l0 l1 (y130 ++ [wrap64 ((rd x7_1 (ji24)) + (rd x7_1 (wrap64 ((x7_1.length : Int) - 1))))]) l1 (l1.length : Int) (wrap64 (x15_1 + 1))) else (some (x7_1, x15_1, false))) else (none)) else (none)) else (none)) else (none)) = some (r1, r2, r3) := by first | (rw [hy130]; with_reducible exact H) | (have H2_ := (Option.bind_some _ _).symm.trans H; rw [hy130]; with_reducible exact H2_) | (have H2_ := (Option.bind_some _ _).symm.trans H; with_reducible exact H2_) | with_reducible exact H | (rw [hy130]; exact H) | exact H
                        have Ny130 := Aside0.mk hy130
                        clear hy130
                        by_cases c27 : (ji24) < (x7_1.length : Int)
                        · rw [if_pos c27] at H
                          have c27b0 : decide ((ji24) < (x7_1.length : Int)) = true := decide_eq_true c27
                          clear c27
                          obtain ⟨ji28, hji28⟩ : ∃ j_ : Int, (wrap64 ((x7_1.length : Int) - 1)) = j_ := ⟨_, rfl⟩
                          replace H : (if 0 ≤ (ji28) then (if (ji28) < (x7_1.length : Int) then (if y130.length < 17592186044416 then (if ((x7_1.length : Int) ≥ 2) then (darningref1_Run.l0 k1 l0 l1 (y130 ++ [wrap64 ((rd x7_1 (ji24)) + (rd x7_1 (ji28)))]) l1 (l1.length : Int) (wrap64 (x15_1 + 1))) else (some (x7_1, x15_1, false))) else (none)) else (none)) else (none)) = some (r1, r2, r3) := by first | (rw [hji28] at H; exact H) | (simp only [hji28] at H ⊢; exact H)
                          have hji28w : (IntKind.i64.wrap ((x7_1.length : Int) - 1)) = ji28 := (i64_w _).trans hji28
                          by_cases c29 : 0 ≤ (ji28)
                          · rw [if_pos c29] at H
                            have c29b0 : decide (0 ≤ (ji28)) = true := decide_eq_true c29
                            clear c29
                            by_cases c30 : (ji28) < (x7_1.length : Int)
                            · rw [if_pos c30] at H
                              have c30b0 : decide ((ji28) < (x7_1.length : Int)) = true := decide_eq_true c30
                              clear c30
                              by_cases c31 : y130.length < 17592186044416
                              · rw [if_pos c31] at H
                                have LMc31 := Aside0.mk c31
                                clear c31
                                obtain ⟨y135, hy135⟩ : ∃ y_ : List Int, y_ = (y130 ++ [wrap64 ((rd x7_1 (ji24)) + (rd x7_1 (ji28)))]) := ⟨_, rfl⟩
                                replace H : (if ((x7_1.length : Int) ≥ 2) then (darningref1_Run.l0 k1 l0 l1 y135 l1 (l1.length : Int) (wrap64 (x15_1 + 1))) else (some (x7_1, x15_1, false))) = some (r1, r2, r3) := by first | (rw [hy135]; with_reducible exact H) | (have H2_ := (Option.bind_some _ _).symm.trans H; rw [hy135]; with_reducible exact H2_) | (have H2_ := (Option.bind_some _ _).symm.trans H; with_reducible exact H2_) | with_reducible exact H | (rw [hy135]; exact H) | exact H
                                have Ny135 := Aside0.mk hy135
                                clear hy135
                                by_cases c32 : ((x7_1.length : Int) ≥ 2)
                                · rw [if_pos c32] at H
                                  have c32b0 : decide (2 ≤ (x7_1.length : Int)) = true := decide_eq_true c32
                                  have c32b1 : decide (2 ≤ x7_1.length) = true := decide_eq_true (by omega)
                                  clear c32
                                  have H' := Aside0.mk H
                                  clear H
                                  have p122 : 0 ≤ (x15_1 : Int) := of_decide_eq_true (by first | (with_reducible assumption) | assumption)
                                  have q122 : x15_1 < (l1.length : Int) := of_decide_eq_true (by first | (with_reducible assumption) | assumption)
                                  obtain ⟨ad122, e122, hx122_0, hx122_1⟩ := at_T50 HR1.out x15_1 p122 q122
                                  cases e122
                                  replace hx122_0 := (HB.out.cell (World.block_lt_of_cell? w _ hx122_0)).trans hx122_0
                                  replace hx122_1 := (HB.out.cell (World.block_lt_of_cell? w _ hx122_1)).trans hx122_1
                                  replace p122 := eq_true p122
                                  replace q122 := eq_true q122
                                  try go_wp2_with (first | ((with_reducible refine gate_dst (N := 9) rfl ?_); (try (refine gate_guard (by rfl) ?_; dsimp only)); refine box_event ?hg (N := 9) ?hd (cs := #[.int .i64 0, .int .i64 0]) (t := 50) ?hr ?_; (case hd => rfl); (case hg => rfl); (case hr => first | (go_simp; done) | (go_simp; rfl)); intro gb123 hg w33 hbox hb; have n0_ := Aside0.mk (Kd.R_below (by (with_reducible repeat (first | apply Kd.R_alloc | apply Kd.R_drewN | apply Kd.R_drew)); exact HO_7.out) hb); have n1_ := Aside0.mk (below_step (by repeat (first | (with_reducible first | exact HB.out | apply below_alloc | apply pw_below_drewN | apply below_drew1) | exact HB.out)) hb); have n2_ := Aside0.mk (hbox); have n3_ := Aside0.mk ((by rw [hg]; exact (below_size (by repeat (first | (with_reducible first | exact HB.out | apply below_alloc | apply pw_below_drewN | apply below_drew1) | exact HB.out))) : w.heap.size ≤ gb123)); have n4_ := Aside0.mk ((by rw [hg]; exact (below_size (by repeat (first | (with_reducible first | exact HB.out | apply below_alloc | apply pw_below_drewN | apply below_drew1) | exact HB.out))) : w.heap.size ≤ gb123)); clear HO_7; clear HB; have HO_7 := n0_; have HB := n1_; have BK123 := n2_; have GW123 := n3_; have GE123 := n4_; clear n0_ n1_ n2_ n3_ n4_; clear hb hbox hg; have hcz34_0 : w33.cell? ⟨gb123, 0, none⟩ = some (.int .i64 0) := (blk_cell BK123.out 0).trans rfl; have hcz34_1 : w33.cell? ⟨gb123, 1, none⟩ = some (.int .i64 0) := (blk_cell BK123.out 1).trans rfl; have hfz34_0 := blk_frozen BK123.out 0; have hfz34_1 := blk_frozen BK123.out 1; obtain ⟨Ao35, co35, eo35⟩ := Kd.R_slice HO_7.out; subst eo35) | ((with_reducible refine gate_builtin (b := .append) (xs := #[.const (.slice none 0 0), .tmp 22]) rfl ?_); (try (refine gate_guard (by rfl) ?_; dsimp only)); at_builtin; refine Kd.R_append_rows (Kd.int .i64) (w0 := w) w.heap.size rfl (.const (.slice none 0 0)) (.tmp 22) 32 3 (.int .i64 0) 8 rfl Try.underlying32 info3 rfl (by decide) (by omega) (.slice none 0 0) ([] : List Int) x7_1 _ _ _ (fun k_ => some k_ ≠ (.slice Ao35 x7_1.length co35 : Value).ownBlock) (fun _ => False) rfl rfl ?aO ?aR (fun _ _ h => h) (fun _ h => h.elim) ?aF ?aB ?aS ?aL ?_; (case aR => refine (Kd.R_reads' (e := 3) (base := w.heap.size) (ok := fun k_ => True) (n := x7_1.length) (c := co35) ?_).2.2; exact (by (with_reducible repeat (first | apply Kd.R_alloc | apply Kd.R_drewN | apply Kd.R_drew)); exact (Kd.R_mono (Kd.R_far (p := ⟨gb123, 1, none⟩) (Kd.R_far (p := ⟨gb123, 0, none⟩) (Kd.R_types HO_7.out BK123.out (by decide)) (fun _ hk => hk.2) (.int .i64 ((rd_T50 l1 x15_1).f0))) (fun _ hk => hk.2) (.int .i64 ((rd_T50 l1 x15_1).f1))) (fun _ h_ => h_.1)))); (case aB => exact (by repeat (first | (with_reducible first | exact HB.out | apply below_alloc | apply pw_below_drewN | apply below_drew1 | refine below_set ?_ GE123.out) | exact HB.out))); (case aF => exact (fun k_ hk => Kd.fresh' (Kd.R_lt (by (with_reducible repeat (first | apply Kd.R_alloc | apply Kd.R_drewN | apply Kd.R_drew)); exact (Kd.R_mono (Kd.R_far (p := ⟨gb123, 1, none⟩) (Kd.R_far (p := ⟨gb123, 0, none⟩) (Kd.R_types HO_7.out BK123.out (by decide)) (fun _ hk => hk.2) (.int .i64 ((rd_T50 l1 x15_1).f0))) (fun _ hk => hk.2) (.int .i64 ((rd_T50 l1 x15_1).f1))) (fun _ h_ => h_.1)))) k_ hk)); (case aO => exact ((Kd.R_nil _ _ _ _ (fun k_ => some k_ ≠ (.slice Ao35 x7_1.length co35 : Value).ownBlock)))); (case aS => exact (below_size (by repeat (first | (with_reducible first | exact HB.out | apply below_alloc | apply pw_below_drewN | apply below_drew1 | refine below_set ?_ GE123.out) | exact HB.out)))); (case aL => have := LMc6.out; omega); intro v125 w36 ho hb hg hat; rw [← Ny124.out] at ho; have n0_ := Aside0.mk (Kd.R_after (Kd.R_apart_nil (by (with_reducible repeat (first | apply Kd.R_alloc | apply Kd.R_drewN | apply Kd.R_drew)); exact (Kd.R_mono (Kd.R_far (p := ⟨gb123, 1, none⟩) (Kd.R_far (p := ⟨gb123, 0, none⟩) (Kd.R_types HO_7.out BK123.out (by decide)) (fun _ hk => hk.2) (.int .i64 ((rd_T50 l1 x15_1).f0))) (fun _ hk => hk.2) (.int .i64 ((rd_T50 l1 x15_1).f1))) (fun _ h_ => h_.1)))) hg hat); have n1_ := Aside0.mk (blk_grown (g := gb123) (o := .cells #[.int .i64 ((rd_T50 l1 x15_1).f0), .int .i64 ((rd_T50 l1 x15_1).f1)] 50 (0, 0)) (by (with_reducible repeat (first | refine blk_drewN ?_ _ | refine blk_drew ?_ | refine blk_alloc ?_ _)); refine blk_put (cs := #[.int .i64 ((rd_T50 l1 x15_1).f0), .int .i64 0]) ?_ 1 _ rfl; (with_reducible repeat (first | refine blk_drewN ?_ _ | refine blk_drew ?_ | refine blk_alloc ?_ _)); refine blk_put (cs := #[.int .i64 0, .int .i64 0]) ?_ 0 _ rfl; (with_reducible repeat (first | refine blk_drewN ?_ _ | refine blk_drew ?_ | refine blk_alloc ?_ _)); exact BK123.out) hg (by simp [Value.ownBlock])); have n2_ := Aside0.mk (hb); have n3_ := Aside0.mk (ho); clear HO_7; clear BK123; clear HB; have HO_7 := n0_; have BK123 := n1_; have HB := n2_; have HO126 := n3_; clear n0_ n1_ n2_ n3_; clear ho hb hg hat; have hcz37_0 : w36.cell? ⟨gb123, 0, none⟩ = some (.int .i64 ((rd_T50 l1 x15_1).f0)) := (blk_cell BK123.out 0).trans rfl; have hcz37_1 : w36.cell? ⟨gb123, 1, none⟩ = some (.int .i64 ((rd_T50 l1 x15_1).f1)) := (blk_cell BK123.out 1).trans rfl; have hfz37_0 := blk_frozen BK123.out 0; have hfz37_1 := blk_frozen BK123.out 1))
                                  have n0_ := Aside0.mk (Kd.R_drew HO_7.out)
                                  have n1_ := Aside0.mk (Kd.R_drew HO126.out)
                                  have n2_ := Aside0.mk (blk_drew BK123.out)
                                  have n3_ := Aside0.mk (below_drew1 HB.out)
                                  clear HO_7
                                  clear HO126
                                  clear BK123
                                  clear HB
                                  have HO_7 := n0_
                                  have HO126 := n1_
                                  have BK123 := n2_
                                  have HB := n3_
                                  clear n0_ n1_ n2_ n3_
                                  obtain ⟨Ao39, co39, eo39⟩ := Kd.R_slice HO126.out
                                  (first | subst eo39 | (injection eo39 with f1_ f2_ f3_; have f4_ := f1_.symm; have f5_ := f3_.symm; clear f1_ f2_ f3_; subst f4_; subst f5_))
                                  have q40 : ((ji24) : Int) ≤ ((y124.length : Int) : Int) := of_decide_eq_true (by first | (with_reducible assumption) | assumption)
                                  obtain ⟨i040, hi040, _, hsz40, _⟩ := info_parts info3
                                  have hcut40 := cut_to (P := Try.prog) 32 3 .i64 Try.underlying32 hi040 Ao39 y124.length co39 (ji24) (of_decide_eq_true (by first | (with_reducible assumption) | assumption)) q40 (Kd.R_reads' HO126.out).2.1
                                  have hr40 := Kd.R_take (m := ((ji24) : Int).toNat) HO126.out (by omega)
                                  have hy40 : y130.length = ((ji24) : Int).toNat := (by rw [Ny130.out, List.length_take]; omega)
                                  rw [← Ny130.out] at hr40
                                  rw [← hy40] at hr40 hcut40
                                  clear hy40 hi040 hsz40 HO126
                                  have HO132 := Aside0.mk hr40
                                  clear hr40
                                  replace q40 := eq_true q40
                                  (try simp only [show (Value.slice Ao39 y124.length co39).ownBlock = (Value.slice Ao39 y130.length co39).ownBlock from by cases Ao39 <;> rfl] at *)
                                  have p133 : 0 ≤ ((ji24) : Int) := of_decide_eq_true (by first | (with_reducible assumption) | assumption)
                                  have q133 : (ji24) < (x7_1.length : Int) := of_decide_eq_true (by first | (with_reducible assumption) | assumption)
                                  obtain ⟨ad133, e133, hx133_0⟩ := Kd.at_int (Kd.R_reads' HO_7.out).2.2 (ji24) p133 q133
                                  cases e133
                                  replace p133 := eq_true p133
                                  replace q133 := eq_true q133
                                  have p134 : 0 ≤ ((ji28) : Int) := of_decide_eq_true (by first | (with_reducible assumption) | assumption)
                                  have q134 : (ji28) < (x7_1.length : Int) := of_decide_eq_true (by first | (with_reducible assumption) | assumption)
                                  obtain ⟨ad134, e134, hx134_0⟩ := Kd.at_int (Kd.R_reads' HO_7.out).2.2 (ji28) p134 q134
                                  obtain rfl : ad133 = ad134 := (by injection e134)
                                  replace p134 := eq_true p134
                                  replace q134 := eq_true q134
                                  refine start_ (n := 18) (S := fun w' => w'.cell? (ad133.add ((ji24)).toNat) = some (.int .i64 (rd x7_1 (ji24))) ∧ w'.cell? (ad133.add ((ji28)).toNat) = some (.int .i64 (rd x7_1 (ji28)))) (ds := [15, 16]) #[false, false, false, false, false, false, false, false, false, false, false, false, false, false, false, false, false, false] (by kernel_rfl) rfl rfl ⟨hx133_0, hx134_0⟩ (fun hHeld => ?_); refine with_tabW darningref1_Run.tab14 darningref1_Run.bits14 (fun HT_ HW_ => ?_)
                                  (first | generalize w36.drew = w38 at HO_7 HO126 BK123 HB HO132 hx133_0 hx134_0 hHeld ⊢ | (generalize w36.drew = w38 at *))
                                  refine pure_ (i := 0) (N := some 40) (v := ?_) (a' := ?_) #[true, false, false, false, false, false, false, false, false, false, false, false, false, false, false, false, false, false] rfl rfl (any_of HT_.out (by kernel_rfl)) (fun _ _ _ h => h) (Or.inl ⟨by rfl, ?_⟩) ?_ ?_
                                  rotate_left
                                  · intro w'
                                    go_simp
                                    with_reducible rfl
                                  rotate_left
                                  · simp only [Act.put, List.setIfInBounds_toArray, List.set_cons_zero, List.set_cons_succ, i64_w, i32_w]
                                    rfl
                                  refine pure_ (i := 1) (N := some 41) (v := ?_) (a' := ?_) #[true, true, false, false, false, false, false, false, false, false, false, false, false, false, false, false, false, false] rfl rfl (any_of HT_.out (by kernel_rfl)) (fun _ _ _ h => h) (Or.inl ⟨by rfl, ?_⟩) ?_ ?_
                                  rotate_left
                                  · intro w'
                                    go_simp
                                    with_reducible rfl
                                  rotate_left
                                  · simp only [Act.put, List.setIfInBounds_toArray, List.set_cons_zero, List.set_cons_succ, i64_w, i32_w]
                                    rfl
                                  refine pure_ (i := 2) (N := some 42) (v := ?_) (a' := ?_) #[true, true, true, false, false, false, false, false, false, false, false, false, false, false, false, false, false, false] rfl rfl (any_of HT_.out (by kernel_rfl)) (fun _ _ _ h => h) (Or.inl ⟨by rfl, ?_⟩) ?_ ?_
                                  rotate_left
                                  · intro w'
                                    go_simp
                                    with_reducible rfl
                                  rotate_left
                                  · simp only [Act.put, List.setIfInBounds_toArray, List.set_cons_zero, List.set_cons_succ, i64_w, i32_w]
                                    rfl
                                  refine pure_ (i := 3) (N := some 43) (v := ?_) (a' := ?_) #[true, true, true, true, false, false, false, false, false, false, false, false, false, false, false, false, false, false] rfl rfl (any_of HT_.out (by kernel_rfl)) (fun _ _ _ h => h) (Or.inl ⟨by rfl, ?_⟩) ?_ ?_
                                  rotate_left
                                  · intro w'
                                    go_simp
                                    with_reducible rfl
                                  rotate_left
                                  · simp only [Act.put, List.setIfInBounds_toArray, List.set_cons_zero, List.set_cons_succ, i64_w, i32_w]
                                    rfl
                                  refine pure_ (i := 4) (N := some 44) (v := ?_) (a' := ?_) #[true, true, true, true, true, false, false, false, false, false, false, false, false, false, false, false, false, false] rfl rfl (any_of HT_.out (by kernel_rfl)) (fun _ _ _ h => h) (Or.inl ⟨by rfl, ?_⟩) ?_ ?_
                                  rotate_left
                                  · intro w'
                                    go_simp
                                    with_reducible rfl
                                  rotate_left
                                  · simp only [Act.put, List.setIfInBounds_toArray, List.set_cons_zero, List.set_cons_succ, i64_w, i32_w]
                                    rfl
                                  refine pure_ (i := 5) (N := some 45) (v := ?_) (a' := ?_) #[true, true, true, true, true, true, false, false, false, false, false, false, false, false, false, false, false, false] rfl rfl (any_of HT_.out (by kernel_rfl)) (fun _ _ _ h => h) (Or.inl ⟨by rfl, ?_⟩) ?_ ?_
                                  rotate_left
                                  · intro w'
                                    go_simp
                                    with_reducible rfl
                                  rotate_left
                                  · simp only [Act.put, List.setIfInBounds_toArray, List.set_cons_zero, List.set_cons_succ, i64_w, i32_w]
                                    rfl
                                  refine pure_ (i := 6) (N := some 46) (v := ?_) (a' := ?_) #[true, true, true, true, true, true, true, false, false, false, false, false, false, false, false, false, false, false] rfl rfl (any_of HT_.out (by kernel_rfl)) (fun _ _ _ h => h) (Or.inl ⟨by rfl, ?_⟩) ?_ ?_
                                  rotate_left
                                  · intro w'
                                    go_simp
                                    with_reducible rfl
                                  rotate_left
                                  · simp only [Act.put, List.setIfInBounds_toArray, List.set_cons_zero, List.set_cons_succ, i64_w, i32_w]
                                    rfl
                                  refine pure_ (i := 7) (N := some 47) (v := ?_) (a' := ?_) #[true, true, true, true, true, true, true, true, false, false, false, false, false, false, false, false, false, false] rfl rfl (any_of HT_.out (by kernel_rfl)) (fun _ _ _ h => h) (Or.inl ⟨by rfl, ?_⟩) ?_ ?_
                                  rotate_left
                                  · intro w'
                                    go_simp
                                    with_reducible rfl
                                  rotate_left
                                  · simp only [Act.put, List.setIfInBounds_toArray, List.set_cons_zero, List.set_cons_succ, i64_w, i32_w]
                                    rfl
                                  refine pure_ (i := 9) (N := some 49) (v := ?_) (a' := ?_) #[true, true, true, true, true, true, true, true, false, true, false, false, false, false, false, false, false, false] rfl rfl (any_of HT_.out (by kernel_rfl)) (fun _ _ _ h => h) (Or.inl ⟨by rfl, ?_⟩) ?_ ?_
                                  rotate_left
                                  · intro w'
                                    go_simp
                                    with_reducible rfl
                                  rotate_left
                                  · simp only [Act.put, List.setIfInBounds_toArray, List.set_cons_zero, List.set_cons_succ, i64_w, i32_w]
                                    rfl
                                  refine pure_ (i := 10) (N := some 50) (v := ?_) (a' := ?_) #[true, true, true, true, true, true, true, true, false, true, true, false, false, false, false, false, false, false] rfl rfl (any_of HT_.out (by kernel_rfl)) (fun _ _ _ h => h) (Or.inl ⟨by rfl, ?_⟩) ?_ ?_
                                  rotate_left
                                  · intro w'
                                    go_simp
                                    with_reducible rfl
                                  rotate_left
                                  · simp only [Act.put, List.setIfInBounds_toArray, List.set_cons_zero, List.set_cons_succ, i64_w, i32_w]
                                    rfl
                                  refine pure_ (i := 11) (N := some 51) (v := ?_) (a' := ?_) #[true, true, true, true, true, true, true, true, false, true, true, true, false, false, false, false, false, false] rfl rfl (any_of HT_.out (by kernel_rfl)) (fun _ _ _ h => h) (Or.inl ⟨by rfl, ?_⟩) ?_ ?_
                                  rotate_left
                                  · intro w'
                                    go_simp
                                    with_reducible rfl
                                  rotate_left
                                  · simp only [Act.put, List.setIfInBounds_toArray, List.set_cons_zero, List.set_cons_succ, i64_w, i32_w]
                                    rfl
                                  refine pure_ (i := 12) (N := some 52) (v := ?_) (a' := ?_) #[true, true, true, true, true, true, true, true, false, true, true, true, true, false, false, false, false, false] rfl rfl (any_of HT_.out (by kernel_rfl)) (fun _ _ _ h => h) (Or.inl ⟨by rfl, ?_⟩) ?_ ?_
                                  rotate_left
                                  · intro w'
                                    go_simp
                                    with_reducible rfl
                                  rotate_left
                                  · simp only [Act.put, List.setIfInBounds_toArray, List.set_cons_zero, List.set_cons_succ, i64_w, i32_w]
                                    rfl
                                  refine take_ (i := 8) (N := some 48) (v := ?_) (a' := ?_) #[true, true, true, true, true, true, true, true, true, true, true, true, true, false, false, false, false, false] rfl rfl (take_ofW HT_.out HW_.out (by kernel_rfl)) (fun _ _ _ h => h) (Or.inl ⟨by rfl, ?_⟩) hHeld ?_ ?_
                                  rotate_left
                                  · rintro w' ⟨s0, s1⟩
                                    go_simp
                                    with_reducible rfl
                                  rotate_left
                                  · simp only [Act.put, List.setIfInBounds_toArray, List.set_cons_zero, List.set_cons_succ, i64_w, i32_w]
                                    rfl
                                  refine take_ (i := 13) (N := some 53) (v := ?_) (a' := ?_) #[true, true, true, true, true, true, true, true, true, true, true, true, true, true, false, false, false, false] rfl rfl (take_ofW HT_.out HW_.out (by kernel_rfl)) (fun _ _ _ h => h) (Or.inl ⟨by rfl, ?_⟩) hHeld ?_ ?_
                                  rotate_left
                                  · rintro w' ⟨s0, s1⟩
                                    go_simp
                                    with_reducible rfl
                                  rotate_left
                                  · simp only [Act.put, List.setIfInBounds_toArray, List.set_cons_zero, List.set_cons_succ, i64_w, i32_w]
                                    rfl
                                  refine pure_ (i := 14) (N := some 54) (v := ?_) (a' := ?_) #[true, true, true, true, true, true, true, true, true, true, true, true, true, true, true, false, false, false] rfl rfl (any_of HT_.out (by kernel_rfl)) (fun _ _ _ h => h) (Or.inl ⟨by rfl, ?_⟩) ?_ ?_
                                  rotate_left
                                  · intro w'
                                    go_simp
                                    with_reducible rfl
                                  rotate_left
                                  · simp only [Act.put, List.setIfInBounds_toArray, List.set_cons_zero, List.set_cons_succ, i64_w, i32_w]
                                    rfl
                                  refine last_ (i := 15) (N := some 55) #[true, true, true, true, true, true, true, true, true, true, true, true, true, true, true, true, false, false] rfl rfl (one_of HT_.out (by kernel_rfl)) (by decide) (fun K hK => ?_)
                                  refine value_ (w1 := ?_) (v := ?_) (by rfl) rfl ?_ ?_
                                  rotate_left 2
                                  · go_simp
                                    constructor
                                    · rfl
                                    · rfl
                                  refine hK.out _ _ ?_
                                  clear hK K
                                  refine norm_ (a' := ?_) ?_ ?_
                                  rotate_left
                                  · show Act.put _ (some 55) _ = _
                                    simp only [Act.put, List.setIfInBounds_toArray, List.set_cons_zero, List.set_cons_succ, i64_w, i32_w]
                                    rfl
                                  refine last_ (i := 16) (N := some 56) #[true, true, true, true, true, true, true, true, true, true, true, true, true, true, true, true, true, false] rfl rfl (one_of HT_.out (by kernel_rfl)) (by decide) (fun K hK => ?_)
                                  refine Kd.R_append_step (Kd.int .i64) (w0 := w) w.heap.size (by rfl) (.tmp 43) (.tmp 55) 32 3 (.int .i64 0) 8 rfl Try.underlying32 info3 rfl (by decide) (by omega) (.slice Ao39 y130.length co39) y130 (wrap64 ((rd x7_1 (ji24)) + (rd x7_1 (ji28)))) [.int .i64 (wrap64 ((rd x7_1 (ji24)) + (rd x7_1 (ji28))))] (fun k_ => some k_ ≠ (.slice (some ad133) x7_1.length co35 : Value).ownBlock) (fun _ => False) rfl rfl ?aP (fun _ hk => hk.elim) ?aF ?aO ?aB ?aS ?aL ?_
                                  (case aP => exact rfl)
                                  (case aB => exact (by repeat (first | (with_reducible first | exact HB.out | apply below_alloc | apply pw_below_drewN | apply below_drew1 | refine below_set ?_ GE123.out) | exact HB.out)))
                                  (case aF => exact (fun k_ hk => Kd.fresh' (Kd.R_lt (by (with_reducible repeat (first | apply Kd.R_alloc | apply Kd.R_drewN | apply Kd.R_drew)); exact HO_7.out)) k_ hk))
                                  (case aO => exact (by (with_reducible repeat (first | apply Kd.R_alloc | apply Kd.R_drewN | apply Kd.R_drew)); exact HO132.out))
                                  (case aS => exact (below_size (by repeat (first | (with_reducible first | exact HB.out | apply below_alloc | apply pw_below_drewN | apply below_drew1 | refine below_set ?_ GE123.out) | exact HB.out))))
                                  (case aL => have := LMc31.out; omega)
                                  intro v136 w41 ho hb hg hat
                                  rw [← Ny135.out] at ho
                                  have n0_ := Aside0.mk (Kd.R_after (ok := (fun _ => True)) (by (with_reducible repeat (first | apply Kd.R_alloc | apply Kd.R_drewN | apply Kd.R_drew)); exact HO_7.out) hg hat)
                                  have n1_ := Aside0.mk (blk_grown (g := gb123) (o := .cells #[.int .i64 ((rd_T50 l1 x15_1).f0), .int .i64 ((rd_T50 l1 x15_1).f1)] 50 (0, 0)) (by (with_reducible repeat (first | refine blk_drewN ?_ _ | refine blk_drew ?_ | refine blk_alloc ?_ _)); exact BK123.out) hg (Kd.R_ne HO132.out BK123.out (by decide)))
                                  have n2_ := Aside0.mk (hb)
                                  have n3_ := Aside0.mk (ho)
                                  clear HO_7
                                  clear BK123
                                  clear HB
                                  clear HO132
                                  have HO_7 := n0_
                                  have BK123 := n1_
                                  have HB := n2_
                                  have HO137 := n3_
                                  clear n0_ n1_ n2_ n3_
                                  clear ho hb hg hat
                                  refine hK.out _ _ ?_
                                  clear hK K
                                  refine norm_ (a' := ?_) ?_ ?_
                                  rotate_left
                                  · show Act.put _ (some 56) _ = _
                                    simp only [Act.put, List.setIfInBounds_toArray, List.set_cons_zero, List.set_cons_succ, i64_w, i32_w]
                                    rfl
                                  refine pure_ (i := 17) (N := some 11) (v := ?_) (a' := ?_) #[true, true, true, true, true, true, true, true, true, true, true, true, true, true, true, true, true, true] rfl rfl (any_of HT_.out (by kernel_rfl)) (fun _ _ _ h => h) (Or.inl ⟨by rfl, ?_⟩) ?_ ?_
                                  rotate_left
                                  · intro w'
                                    go_simp
                                    with_reducible rfl
                                  rotate_left
                                  · simp only [Act.put, List.setIfInBounds_toArray, List.set_cons_zero, List.set_cons_succ, i64_w, i32_w]
                                    rfl
                                  refine done_ (done_of HT_.out (by kernel_rfl)) ?_
                                  try go_wp2
                                  go_roundg k1
                                  case measure => have := HK1.out; omega
                                  case rel => exact ⟨(y135), (wrap64 (x15_1 + 1)), (by first | rfl | (simp; done) | (simp [*]; done)), (by first | exact H' | ((try rw [hji24]); (try rw [hji28]); exact H')), ⟨by have := HK1.out; omega⟩, ⟨by (with_reducible repeat (first | apply Kd.R_alloc | apply Kd.R_drewN | apply Kd.R_drew)); exact Kd.R_mono HO137.out (fun _ hk => trivial)⟩, ⟨by repeat (first | (with_reducible first | exact HB.out | apply below_alloc | apply pw_below_drewN | apply below_drew1 | refine below_set ?_ GE123.out) | exact HB.out)⟩⟩
                                · rw [if_neg c32] at H
                                  have c32b0 : decide (2 ≤ (x7_1.length : Int)) = false := decide_eq_false c32
                                  have c32b1 : decide (2 ≤ x7_1.length) = false := decide_eq_false (by omega)
                                  clear c32
                                  exact absurd (c23b0.symm.trans c32b0) (by decide)
                              · rw [if_neg c31] at H
                                exact absurd H (by simp)
                            · rw [if_neg c30] at H
                              exact absurd H (by simp)
                          · rw [if_neg c29] at H
                            exact absurd H (by simp)
                        · rw [if_neg c27] at H
                          exact absurd H (by simp)
                      · rw [if_neg c26] at H
                        exact absurd H (by simp)
                    · rw [if_neg c25] at H
                      exact absurd H (by simp)
                  · rw [if_neg c23] at H
                    have c23b0 : decide (2 ≤ (x7_1.length : Int)) = false := decide_eq_false c23
                    have c23b1 : decide (2 ≤ x7_1.length) = false := decide_eq_false (by omega)
                    clear c23
                    by_cases c42 : ((x7_1.length : Int) ≥ 2)
                    · rw [if_pos c42] at H
                      have c42b0 : decide (2 ≤ (x7_1.length : Int)) = true := decide_eq_true c42
                      have c42b1 : decide (2 ≤ x7_1.length) = true := decide_eq_true (by omega)
                      clear c42
                      exact absurd (c23b0.symm.trans c42b0) (by decide)
                    · rw [if_neg c42] at H
                      have c42b0 : decide (2 ≤ (x7_1.length : Int)) = false := decide_eq_false c42
                      have c42b1 : decide (2 ≤ x7_1.length) = false := decide_eq_false (by omega)
                      clear c42
                      simp only [Option.some.injEq, Prod.mk.injEq] at H
                      obtain ⟨rfl, rfl, rfl⟩ := H
                      have p122 : 0 ≤ (x15_1 : Int) := of_decide_eq_true (by first | (with_reducible assumption) | assumption)
                      have q122 : x15_1 < (l1.length : Int) := of_decide_eq_true (by first | (with_reducible assumption) | assumption)
                      obtain ⟨ad122, e122, hx122_0, hx122_1⟩ := at_T50 HR1.out x15_1 p122 q122
                      cases e122
                      replace hx122_0 := (HB.out.cell (World.block_lt_of_cell? w _ hx122_0)).trans hx122_0
                      replace hx122_1 := (HB.out.cell (World.block_lt_of_cell? w _ hx122_1)).trans hx122_1
                      replace p122 := eq_true p122
                      replace q122 := eq_true q122
                      go_wp2_with (first | ((with_reducible refine gate_dst (N := 9) rfl ?_); (try (refine gate_guard (by rfl) ?_; dsimp only)); refine box_event ?hg (N := 9) ?hd (cs := #[.int .i64 0, .int .i64 0]) (t := 50) ?hr ?_; (case hd => rfl); (case hg => rfl); (case hr => first | (go_simp; done) | (go_simp; rfl)); intro gb123 hg w43 hbox hb; have n0_ := Aside0.mk (Kd.R_below (by (with_reducible repeat (first | apply Kd.R_alloc | apply Kd.R_drewN | apply Kd.R_drew)); exact HO_7.out) hb); have n1_ := Aside0.mk (below_step (by repeat (first | (with_reducible first | exact HB.out | apply below_alloc | apply pw_below_drewN | apply below_drew1) | exact HB.out)) hb); have n2_ := Aside0.mk (hbox); have n3_ := Aside0.mk ((by rw [hg]; exact (below_size (by repeat (first | (with_reducible first | exact HB.out | apply below_alloc | apply pw_below_drewN | apply below_drew1) | exact HB.out))) : w.heap.size ≤ gb123)); have n4_ := Aside0.mk ((by rw [hg]; exact (below_size (by repeat (first | (with_reducible first | exact HB.out | apply below_alloc | apply pw_below_drewN | apply below_drew1) | exact HB.out))) : w.heap.size ≤ gb123)); clear HO_7; clear HB; have HO_7 := n0_; have HB := n1_; have BK123 := n2_; have GW123 := n3_; have GE123 := n4_; clear n0_ n1_ n2_ n3_ n4_; clear hb hbox hg; have hcz44_0 : w43.cell? ⟨gb123, 0, none⟩ = some (.int .i64 0) := (blk_cell BK123.out 0).trans rfl; have hcz44_1 : w43.cell? ⟨gb123, 1, none⟩ = some (.int .i64 0) := (blk_cell BK123.out 1).trans rfl; have hfz44_0 := blk_frozen BK123.out 0; have hfz44_1 := blk_frozen BK123.out 1; obtain ⟨Ao45, co45, eo45⟩ := Kd.R_slice HO_7.out; subst eo45) | ((with_reducible refine gate_builtin (b := .append) (xs := #[.const (.slice none 0 0), .tmp 22]) rfl ?_); (try (refine gate_guard (by rfl) ?_; dsimp only)); at_builtin; refine Kd.R_append_rows (Kd.int .i64) (w0 := w) w.heap.size rfl (.const (.slice none 0 0)) (.tmp 22) 32 3 (.int .i64 0) 8 rfl Try.underlying32 info3 rfl (by decide) (by omega) (.slice none 0 0) ([] : List Int) x7_1 _ _ _ (fun k_ => some k_ ≠ (.slice Ao45 x7_1.length co45 : Value).ownBlock) (fun _ => False) rfl rfl ?aO ?aR (fun _ _ h => h) (fun _ h => h.elim) ?aF ?aB ?aS ?aL ?_; (case aR => refine (Kd.R_reads' (e := 3) (base := w.heap.size) (ok := fun k_ => True) (n := x7_1.length) (c := co45) ?_).2.2; exact (by (with_reducible repeat (first | apply Kd.R_alloc | apply Kd.R_drewN | apply Kd.R_drew)); exact (Kd.R_mono (Kd.R_far (p := ⟨gb123, 1, none⟩) (Kd.R_far (p := ⟨gb123, 0, none⟩) (Kd.R_types HO_7.out BK123.out (by decide)) (fun _ hk => hk.2) (.int .i64 ((rd_T50 l1 x15_1).f0))) (fun _ hk => hk.2) (.int .i64 ((rd_T50 l1 x15_1).f1))) (fun _ h_ => h_.1)))); (case aB => exact (by repeat (first | (with_reducible first | exact HB.out | apply below_alloc | apply pw_below_drewN | apply below_drew1 | refine below_set ?_ GE123.out) | exact HB.out))); (case aF => exact (fun k_ hk => Kd.fresh' (Kd.R_lt (by (with_reducible repeat (first | apply Kd.R_alloc | apply Kd.R_drewN | apply Kd.R_drew)); exact (Kd.R_mono (Kd.R_far (p := ⟨gb123, 1, none⟩) (Kd.R_far (p := ⟨gb123, 0, none⟩) (Kd.R_types HO_7.out BK123.out (by decide)) (fun _ hk => hk.2) (.int .i64 ((rd_T50 l1 x15_1).f0))) (fun _ hk => hk.2) (.int .i64 ((rd_T50 l1 x15_1).f1))) (fun _ h_ => h_.1)))) k_ hk)); (case aO => exact ((Kd.R_nil _ _ _ _ (fun k_ => some k_ ≠ (.slice Ao45 x7_1.length co45 : Value).ownBlock)))); (case aS => exact (below_size (by repeat (first | (with_reducible first | exact HB.out | apply below_alloc | apply pw_below_drewN | apply below_drew1 | refine below_set ?_ GE123.out) | exact HB.out)))); (case aL => have := LMc6.out; omega); intro v125 w46 ho hb hg hat; rw [← Ny124.out] at ho; have n0_ := Aside0.mk (Kd.R_after (Kd.R_apart_nil (by (with_reducible repeat (first | apply Kd.R_alloc | apply Kd.R_drewN | apply Kd.R_drew)); exact (Kd.R_mono (Kd.R_far (p := ⟨gb123, 1, none⟩) (Kd.R_far (p := ⟨gb123, 0, none⟩) (Kd.R_types HO_7.out BK123.out (by decide)) (fun _ hk => hk.2) (.int .i64 ((rd_T50 l1 x15_1).f0))) (fun _ hk => hk.2) (.int .i64 ((rd_T50 l1 x15_1).f1))) (fun _ h_ => h_.1)))) hg hat); have n1_ := Aside0.mk (blk_grown (g := gb123) (o := .cells #[.int .i64 ((rd_T50 l1 x15_1).f0), .int .i64 ((rd_T50 l1 x15_1).f1)] 50 (0, 0)) (by (with_reducible repeat (first | refine blk_drewN ?_ _ | refine blk_drew ?_ | refine blk_alloc ?_ _)); refine blk_put (cs := #[.int .i64 ((rd_T50 l1 x15_1).f0), .int .i64 0]) ?_ 1 _ rfl; (with_reducible repeat (first | refine blk_drewN ?_ _ | refine blk_drew ?_ | refine blk_alloc ?_ _)); refine blk_put (cs := #[.int .i64 0, .int .i64 0]) ?_ 0 _ rfl; (with_reducible repeat (first | refine blk_drewN ?_ _ | refine blk_drew ?_ | refine blk_alloc ?_ _)); exact BK123.out) hg (by simp [Value.ownBlock])); have n2_ := Aside0.mk (hb); have n3_ := Aside0.mk (ho); clear HO_7; clear BK123; clear HB; have HO_7 := n0_; have BK123 := n1_; have HB := n2_; have HO126 := n3_; clear n0_ n1_ n2_ n3_; clear ho hb hg hat; have hcz47_0 : w46.cell? ⟨gb123, 0, none⟩ = some (.int .i64 ((rd_T50 l1 x15_1).f0)) := (blk_cell BK123.out 0).trans rfl; have hcz47_1 : w46.cell? ⟨gb123, 1, none⟩ = some (.int .i64 ((rd_T50 l1 x15_1).f1)) := (blk_cell BK123.out 1).trans rfl; have hfz47_0 := blk_frozen BK123.out 0; have hfz47_1 := blk_frozen BK123.out 1))
                      go_ret3
                      exact ⟨_, by first | rfl | (simp [errW_none, errW_some] <;> rfl) | (simp [*, errW_none, errW_some] <;> rfl), by (with_reducible repeat (first | apply Kd.R_alloc | apply Kd.R_drewN | apply Kd.R_drew)); exact Kd.R_mono HO_7.out (fun _ hk => trivial), by repeat (first | (with_reducible first | exact HB.out | apply below_alloc | apply pw_below_drewN | apply below_drew1 | refine below_set ?_ GE123.out) | exact HB.out)⟩
                · rw [if_neg c22] at H
                  have c22b0 : (((rd_T50 l1 x15_1).f0) == 2) = false := beq_eq_false_iff_ne.mpr c22
                  have c22b1 : (((rd_T50 l1 x15_1).f0) != 2) = true := bne_iff_ne.mpr c22
                  by_cases c48 : ((rd_T50 l1 x15_1).f0) = 3
                  · rw [if_pos c48] at H
                    have c48b0 : (((rd_T50 l1 x15_1).f0) == 3) = true := beq_iff_eq.mpr c48
                    have c48b1 : (((rd_T50 l1 x15_1).f0) != 3) = false := bne_eq_false_iff_eq.mpr c48
                    clear c48
                    have HC49 := Aside0.mk H
                    clear H
                    have p122 : 0 ≤ (x15_1 : Int) := of_decide_eq_true (by first | (with_reducible assumption) | assumption)
                    have q122 : x15_1 < (l1.length : Int) := of_decide_eq_true (by first | (with_reducible assumption) | assumption)
                    obtain ⟨ad122, e122, hx122_0, hx122_1⟩ := at_T50 HR1.out x15_1 p122 q122
                    cases e122
                    replace hx122_0 := (HB.out.cell (World.block_lt_of_cell? w _ hx122_0)).trans hx122_0
                    replace hx122_1 := (HB.out.cell (World.block_lt_of_cell? w _ hx122_1)).trans hx122_1
                    replace p122 := eq_true p122
                    replace q122 := eq_true q122
                    go_upto_region 16 with (first | ((with_reducible refine gate_dst (N := 9) rfl ?_); (try (refine gate_guard (by rfl) ?_; dsimp only)); refine box_event ?hg (N := 9) ?hd (cs := #[.int .i64 0, .int .i64 0]) (t := 50) ?hr ?_; (case hd => rfl); (case hg => rfl); (case hr => first | (go_simp; done) | (go_simp; rfl)); intro gb123 hg w50 hbox hb; have n0_ := Aside0.mk (Kd.R_below (by (with_reducible repeat (first | apply Kd.R_alloc | apply Kd.R_drewN | apply Kd.R_drew)); exact HO_7.out) hb); have n1_ := Aside0.mk (below_step (by repeat (first | (with_reducible first | exact HB.out | apply below_alloc | apply pw_below_drewN | apply below_drew1) | exact HB.out)) hb); have n2_ := Aside0.mk (hbox); have n3_ := Aside0.mk ((by rw [hg]; exact (below_size (by repeat (first | (with_reducible first | exact HB.out | apply below_alloc | apply pw_below_drewN | apply below_drew1) | exact HB.out))) : w.heap.size ≤ gb123)); have n4_ := Aside0.mk ((by rw [hg]; exact (below_size (by repeat (first | (with_reducible first | exact HB.out | apply below_alloc | apply pw_below_drewN | apply below_drew1) | exact HB.out))) : w.heap.size ≤ gb123)); clear HO_7; clear HB; have HO_7 := n0_; have HB := n1_; have BK123 := n2_; have GW123 := n3_; have GE123 := n4_; clear n0_ n1_ n2_ n3_ n4_; clear hb hbox hg; have hcz51_0 : w50.cell? ⟨gb123, 0, none⟩ = some (.int .i64 0) := (blk_cell BK123.out 0).trans rfl; have hcz51_1 : w50.cell? ⟨gb123, 1, none⟩ = some (.int .i64 0) := (blk_cell BK123.out 1).trans rfl; have hfz51_0 := blk_frozen BK123.out 0; have hfz51_1 := blk_frozen BK123.out 1; obtain ⟨Ao52, co52, eo52⟩ := Kd.R_slice HO_7.out; subst eo52) | ((with_reducible refine gate_builtin (b := .append) (xs := #[.const (.slice none 0 0), .tmp 22]) rfl ?_); (try (refine gate_guard (by rfl) ?_; dsimp only)); at_builtin; refine Kd.R_append_rows (Kd.int .i64) (w0 := w) w.heap.size rfl (.const (.slice none 0 0)) (.tmp 22) 32 3 (.int .i64 0) 8 rfl Try.underlying32 info3 rfl (by decide) (by omega) (.slice none 0 0) ([] : List Int) x7_1 _ _ _ (fun k_ => some k_ ≠ (.slice Ao52 x7_1.length co52 : Value).ownBlock) (fun _ => False) rfl rfl ?aO ?aR (fun _ _ h => h) (fun _ h => h.elim) ?aF ?aB ?aS ?aL ?_; (case aR => refine (Kd.R_reads' (e := 3) (base := w.heap.size) (ok := fun k_ => True) (n := x7_1.length) (c := co52) ?_).2.2; exact (by (with_reducible repeat (first | apply Kd.R_alloc | apply Kd.R_drewN | apply Kd.R_drew)); exact (Kd.R_mono (Kd.R_far (p := ⟨gb123, 1, none⟩) (Kd.R_far (p := ⟨gb123, 0, none⟩) (Kd.R_types HO_7.out BK123.out (by decide)) (fun _ hk => hk.2) (.int .i64 ((rd_T50 l1 x15_1).f0))) (fun _ hk => hk.2) (.int .i64 ((rd_T50 l1 x15_1).f1))) (fun _ h_ => h_.1)))); (case aB => exact (by repeat (first | (with_reducible first | exact HB.out | apply below_alloc | apply pw_below_drewN | apply below_drew1 | refine below_set ?_ GE123.out) | exact HB.out))); (case aF => exact (fun k_ hk => Kd.fresh' (Kd.R_lt (by (with_reducible repeat (first | apply Kd.R_alloc | apply Kd.R_drewN | apply Kd.R_drew)); exact (Kd.R_mono (Kd.R_far (p := ⟨gb123, 1, none⟩) (Kd.R_far (p := ⟨gb123, 0, none⟩) (Kd.R_types HO_7.out BK123.out (by decide)) (fun _ hk => hk.2) (.int .i64 ((rd_T50 l1 x15_1).f0))) (fun _ hk => hk.2) (.int .i64 ((rd_T50 l1 x15_1).f1))) (fun _ h_ => h_.1)))) k_ hk)); (case aO => exact ((Kd.R_nil _ _ _ _ (fun k_ => some k_ ≠ (.slice Ao52 x7_1.length co52 : Value).ownBlock)))); (case aS => exact (below_size (by repeat (first | (with_reducible first | exact HB.out | apply below_alloc | apply pw_below_drewN | apply below_drew1 | refine below_set ?_ GE123.out) | exact HB.out)))); (case aL => have := LMc6.out; omega); intro v125 w53 ho hb hg hat; rw [← Ny124.out] at ho; have n0_ := Aside0.mk (Kd.R_after (Kd.R_apart_nil (by (with_reducible repeat (first | apply Kd.R_alloc | apply Kd.R_drewN | apply Kd.R_drew)); exact (Kd.R_mono (Kd.R_far (p := ⟨gb123, 1, none⟩) (Kd.R_far (p := ⟨gb123, 0, none⟩) (Kd.R_types HO_7.out BK123.out (by decide)) (fun _ hk => hk.2) (.int .i64 ((rd_T50 l1 x15_1).f0))) (fun _ hk => hk.2) (.int .i64 ((rd_T50 l1 x15_1).f1))) (fun _ h_ => h_.1)))) hg hat); have n1_ := Aside0.mk (blk_grown (g := gb123) (o := .cells #[.int .i64 ((rd_T50 l1 x15_1).f0), .int .i64 ((rd_T50 l1 x15_1).f1)] 50 (0, 0)) (by (with_reducible repeat (first | refine blk_drewN ?_ _ | refine blk_drew ?_ | refine blk_alloc ?_ _)); refine blk_put (cs := #[.int .i64 ((rd_T50 l1 x15_1).f0), .int .i64 0]) ?_ 1 _ rfl; (with_reducible repeat (first | refine blk_drewN ?_ _ | refine blk_drew ?_ | refine blk_alloc ?_ _)); refine blk_put (cs := #[.int .i64 0, .int .i64 0]) ?_ 0 _ rfl; (with_reducible repeat (first | refine blk_drewN ?_ _ | refine blk_drew ?_ | refine blk_alloc ?_ _)); exact BK123.out) hg (by simp [Value.ownBlock])); have n2_ := Aside0.mk (hb); have n3_ := Aside0.mk (ho); clear HO_7; clear BK123; clear HB; have HO_7 := n0_; have BK123 := n1_; have HB := n2_; have HO126 := n3_; clear n0_ n1_ n2_ n3_; clear ho hb hg hat; have hcz54_0 : w53.cell? ⟨gb123, 0, none⟩ = some (.int .i64 ((rd_T50 l1 x15_1).f0)) := (blk_cell BK123.out 0).trans rfl; have hcz54_1 : w53.cell? ⟨gb123, 1, none⟩ = some (.int .i64 ((rd_T50 l1 x15_1).f1)) := (blk_cell BK123.out 1).trans rfl; have hfz54_0 := blk_frozen BK123.out 0; have hfz54_1 := blk_frozen BK123.out 1))
                    (try simp only [Act.put, List.setIfInBounds_toArray, List.set_cons_zero, List.set_cons_succ])
                    go_cut [12] (fun v12 wc => ∃ (kq : Nat) (x12_48 : Bool), v12 = .bool x12_48 ∧ Aside0 (darningref1_Run.j1 kq l0 l1 x7_1 x15_1 (x7_1.length : Int) y124 x12_48 l1 (l1.length : Int) x15_1 = some (r1, r2, r3)) ∧ Aside0 (kq ≤ k1) ∧ Aside0 (Kd.R (Kd.int .i64) 3 wc w.heap.size (fun k_ => some k_ ≠ (v125 : Value).ownBlock) (.slice Ao52 x7_1.length co52) x7_1) ∧ Aside0 (Kd.R (Kd.int .i64) 3 wc w.heap.size (fun k_ => some k_ ≠ ((.slice Ao52 x7_1.length co52) : Value).ownBlock) v125 y124) ∧ Aside0 (wc.heap[gb123]? = some (.cells #[.int .i64 ((rd_T50 l1 x15_1).f0), .int .i64 ((rd_T50 l1 x15_1).f1)] 50 (0, 0))) ∧ Aside0 (Below w.heap.size w wc))
                    case first =>
                      have H := HC49.out
                      clear HC49
                      by_cases c55 : (x7_1.length : Int) ≥ 2
                      · rw [if_pos c55] at H
                        have c55b0 : decide (2 ≤ (x7_1.length : Int)) = true := decide_eq_true c55
                        have c55b1 : decide (2 ≤ x7_1.length) = true := decide_eq_true (by omega)
                        clear c55
                        (first | rw [c55b0] | (simp only [i64_w, i32_w]; rw [c55b0]) | skip)
                        obtain ⟨ji56, hji56⟩ : ∃ j_ : Int, (wrap64 ((x7_1.length : Int) - 1)) = j_ := ⟨_, rfl⟩
                        replace H : (if 0 ≤ (ji56) then (if (ji56) < (x7_1.length : Int) then (darningref1_Run.j1 k1 l0 l1 x7_1 x15_1 (x7_1.length : Int) y124 ((rd x7_1 (ji56)) != 0) l1 (l1.length : Int) x15_1) else (none)) else (none)) = some (r1, r2, r3) := by first | (rw [hji56] at H; exact H) | (simp only [hji56] at H ⊢; exact H)
                        have hji56w : (IntKind.i64.wrap ((x7_1.length : Int) - 1)) = ji56 := (i64_w _).trans hji56
                        by_cases c57 : 0 ≤ (ji56)
                        · rw [if_pos c57] at H
                          have c57b0 : decide (0 ≤ (ji56)) = true := decide_eq_true c57
                          clear c57
                          by_cases c58 : (ji56) < (x7_1.length : Int)
                          · rw [if_pos c58] at H
                            have c58b0 : decide ((ji56) < (x7_1.length : Int)) = true := decide_eq_true c58
                            clear c58
                            have H' := Aside0.mk H
                            clear H
                            have p138 : 0 ≤ ((ji56) : Int) := of_decide_eq_true (by first | (with_reducible assumption) | assumption)
                            have q138 : (ji56) < (x7_1.length : Int) := of_decide_eq_true (by first | (with_reducible assumption) | assumption)
                            obtain ⟨ad138, e138, hx138_0⟩ := Kd.at_int (Kd.R_reads' HO_7.out).2.2 (ji56) p138 q138
                            cases e138
                            replace p138 := eq_true p138
                            replace q138 := eq_true q138
                            go_wp2
                            go_meet
                            case rel => exact ⟨_, (((rd x7_1 (ji56)) != 0)), (by first | rfl | (simp; done) | (simp only [← hji56] <;> (first | rfl | simp)) | (simp [*]; done)), (by first | exact H' | (simp only [hji56]; exact H')), ⟨by have := HK1.out; first | omega | exact Nat.le_refl _⟩, ⟨by (with_reducible repeat (first | apply Kd.R_alloc | apply Kd.R_drewN | apply Kd.R_drew)); exact Kd.R_mono HO_7.out (fun _ hk => hk.2)⟩, ⟨by (with_reducible repeat (first | apply Kd.R_alloc | apply Kd.R_drewN | apply Kd.R_drew)); exact HO126.out⟩, ⟨by (with_reducible repeat (first | refine blk_drewN ?_ _ | refine blk_drew ?_ | refine blk_alloc ?_ _)); exact BK123.out⟩, ⟨by repeat (first | (with_reducible first | exact HB.out | apply below_alloc | apply pw_below_drewN | apply below_drew1 | refine below_set ?_ GE123.out) | exact HB.out)⟩⟩
                          · rw [if_neg c58] at H
                            exact absurd H (by simp)
                        · rw [if_neg c57] at H
                          exact absurd H (by simp)
                      · rw [if_neg c55] at H
                        have c55b0 : decide (2 ≤ (x7_1.length : Int)) = false := decide_eq_false c55
                        have c55b1 : decide (2 ≤ x7_1.length) = false := decide_eq_false (by omega)
                        clear c55
                        (first | rw [c55b0] | (simp only [i64_w, i32_w]; rw [c55b0]) | skip)
                        have H' := Aside0.mk H
                        clear H
                        go_wp2
                        go_meet
                        case rel => exact ⟨_, (false), (by first | rfl | (simp; done) | (simp [*]; done)), (by first | exact H' | ((try rw [hji24]); (try rw [hji28]); (try rw [hji56]); exact H')), ⟨by have := HK1.out; first | omega | exact Nat.le_refl _⟩, ⟨by (with_reducible repeat (first | apply Kd.R_alloc | apply Kd.R_drewN | apply Kd.R_drew)); exact Kd.R_mono HO_7.out (fun _ hk => hk.2)⟩, ⟨by (with_reducible repeat (first | apply Kd.R_alloc | apply Kd.R_drewN | apply Kd.R_drew)); exact HO126.out⟩, ⟨by (with_reducible repeat (first | refine blk_drewN ?_ _ | refine blk_drew ?_ | refine blk_alloc ?_ _)); exact BK123.out⟩, ⟨by repeat (first | (with_reducible first | exact HB.out | apply below_alloc | apply pw_below_drewN | apply below_drew1 | refine below_set ?_ GE123.out) | exact HB.out)⟩⟩
                    case rest =>
                      clear HC49
                      try clear c1
                      try clear p1
                      try clear q1
                      try clear hx1
                      try clear c2
                      try clear p2
                      try clear c3
                      try clear c3b0
                      try clear c4
                      try clear c4b0
                      try clear q4
                      try clear c5
                      try clear c5b0
                      try clear c6
                      try clear p6
                      try clear c7
                      try clear c7b0
                      try clear c7b1
                      try clear c8
                      try clear c9
                      try clear c9b0
                      try clear c9b1
                      try clear p12
                      try clear q12
                      try clear hx12
                      try clear p13
                      try clear q13
                      try clear hx13
                      try clear c22
                      try clear c22b0
                      try clear c22b1
                      try clear c23
                      try clear c23b0
                      try clear c23b1
                      try clear c25
                      try clear c25b0
                      try clear c25b1
                      try clear c26
                      try clear c26b0
                      try clear c26b1
                      try clear c27
                      try clear c27b0
                      try clear c29
                      try clear c29b0
                      try clear c30
                      try clear c30b0
                      try clear c31
                      try clear c32
                      try clear c32b0
                      try clear c32b1
                      try clear c34
                      try clear q40
                      try clear c42
                      try clear c42b0
                      try clear c42b1
                      try clear c48
                      try clear c48b0
                      try clear c48b1
                      try clear c55
                      try clear c55b0
                      try clear c55b1
                      try clear c57
                      try clear c57b0
                      try clear c58
                      try clear c58b0
                      try clear hcz11_0
                      try clear hcz11_1
                      try clear hcz14_0
                      try clear hcz14_1
                      try clear hcz17_0
                      try clear hcz17_1
                      try clear hcz20_0
                      try clear hcz20_1
                      try clear hcz34_0
                      try clear hcz34_1
                      try clear hcz37_0
                      try clear hcz37_1
                      try clear hcz44_0
                      try clear hcz44_1
                      try clear hcz47_0
                      try clear hcz47_1
                      try clear hcz51_0
                      try clear hcz51_1
                      try clear hcz54_0
                      try clear hcz54_1
                      try clear hfz11_0
                      try clear hfz11_1
                      try clear hfz14_0
                      try clear hfz14_1
                      try clear hfz17_0
                      try clear hfz17_1
                      try clear hfz20_0
                      try clear hfz20_1
                      try clear hfz34_0
                      try clear hfz34_1
                      try clear hfz37_0
                      try clear hfz37_1
                      try clear hfz44_0
                      try clear hfz44_1
                      try clear hfz47_0
                      try clear hfz47_1
                      try clear hfz51_0
                      try clear hfz51_1
                      try clear hfz54_0
                      try clear hfz54_1
                      try clear hx122_0
                      try clear hx122_1
                      try clear hx133_0
                      try clear hx134_0
                      try clear hx138_0
                      try clear p122
                      try clear p133
                      try clear p134
                      try clear p138
                      try clear p2
                      try clear q122
                      try clear q133
                      try clear q134
                      try clear q138
                      try clear q40
                      obtain ⟨kq, x12_48, rfl, HA, HJ48, HO_7, HO_11, BK123, HB⟩ := hcut
                      cases kq with
                      | zero => exact absurd HA.out (by simp [darningref1_Run.j1])
                      | succ kj48 =>
                        have H := HA.out
                        clear HA
                        simp only [darningref1_Run.j1] at H
                        by_cases c59 : x12_48 = true
                        · subst c59
                          have H1 : (if 0 ≤ (wrap64 ((x7_1.length : Int) - 2)) then (if (wrap64 ((x7_1.length : Int) - 2)) ≤ (y124.length : Int) then ((some (y124.take ((wrap64 ((x7_1.length : Int) - 2)) : Int).toNat : List Int)).bind fun y139 => (if (wrap64 ((x7_1.length : Int) - 2)) < (x7_1.length : Int) then (if 0 ≤ (wrap64 ((x7_1.length : Int) - 1)) then (if (wrap64 ((x7_1.length : Int) - 1)) < (x7_1.length : Int) then (if (rd x7_1 (wrap64 ((x7_1.length : Int) - 1))) = 0 then (none) else (if y139.length < 17592186044416 then (darningref1_Run.l0 kj48 l0 l1 (y139 ++ [wrap64 (Int.tdiv (rd x7_1 (wrap64 ((x7_1.length : Int) - 2))) (rd x7_1 (wrap64 ((x7_1.length : Int) - 1))))]) l1 (l1.length : Int) (wrap64 (x15_1 + 1))) else (none))) else (none)) else (none)) else (none))) else (none)) else (none)) = some (r1, r2, r3) := by rw [if_pos rfl] at H; exact H
                          clear H
                          have H := H1
                          clear H1
                          obtain ⟨ji60, hji60⟩ : ∃ j_ : Int, (wrap64 ((x7_1.length : Int) - 2)) = j_ := ⟨_, rfl⟩
                          replace H : (if 0 ≤ (ji60) then (if (ji60) ≤ (y124.length : Int) then ((some (y124.take ((ji60) : Int).toNat : List Int)).bind fun y139 => (if (ji60) < (x7_1.length : Int) then (if 0 ≤ (wrap64 ((x7_1.length : Int) - 1)) then (if (wrap64 ((x7_1.length : Int) - 1)) < (x7_1.length : Int) then (if (rd x7_1 (wrap64 ((x7_1.length : Int) - 1))) = 0 then (none) else (if y139.length < 17592186044416 then (darningref1_Run.l0 kj48 l0 l1 (y139 ++ [wrap64 (Int.tdiv (rd x7_1 (ji60)) (rd x7_1 (wrap64 ((x7_1.length : Int) - 1))))]) l1 (l1.length : Int) (wrap64 (x15_1 + 1))) else (none))) else (none)) else (none)) else (none))) else (none)) else (none)) = some (r1, r2, r3) := by first | (rw [hji60] at H; exact H) | (simp only [hji60] at H ⊢; exact H)
                          have hji60w : (IntKind.i64.wrap ((x7_1.length : Int) - 2)) = ji60 := (i64_w _).trans hji60
                          by_cases c61 : 0 ≤ (ji60)
                          · rw [if_pos c61] at H
                            have c61b0 := eq_true c61
                            have c61b1 : decide (0 ≤ (ji60)) = true := decide_eq_true c61
                            clear c61
                            by_cases c62 : (ji60) ≤ (y124.length : Int)
                            · rw [if_pos c62] at H
                              have c62b0 := eq_true c62
                              have c62b1 : decide ((ji60) ≤ (y124.length : Int)) = true := decide_eq_true c62
                              clear c62
                              obtain ⟨y139, hy139⟩ : ∃ y_ : List Int, y_ = (y124.take ((ji60) : Int).toNat) := ⟨_, rfl⟩
                              replace H : (if (ji60) < (x7_1.length : Int) then (if 0 ≤ (wrap64 ((x7_1.length : Int) - 1)) then (if (wrap64 ((x7_1.length : Int) - 1)) < (x7_1.length : Int) then (if (rd x7_1 (wrap64 ((x7_1.length : Int) - 1))) = 0 then (none) else (if y139.length < 17592186044416 then (darningref1_Run.l0 kj48 l0 l1 (y139 ++ [wrap64 (Int.tdiv (rd x7_1 (ji60)) (rd x7_1 (wrap64 ((x7_1.length : Int) - 1))))]) l1 (l1.length : Int) (wrap64 (x15_1 + 1))) else (none))) else (none)) else (none)) else (none)) = some (r1, r2, r3) := by first | (rw [hy139]; with_reducible exact H) | (have H2_ := (Option.bind_some _ _).symm.trans H; rw [hy139]; with_reducible exact H2_) | (have H2_ := (Option.bind_some _ _).symm.trans H; with_reducible exact H2_) | with_reducible exact H | (rw [hy139]; exact H) | exact H
                              have Ny139 := Aside0.mk hy139
                              clear hy139
                              by_cases c63 : (ji60) < (x7_1.length : Int)
                              · rw [if_pos c63] at H
                                have c63b0 : decide ((ji60) < (x7_1.length : Int)) = true := decide_eq_true c63
                                clear c63
                                obtain ⟨ji64, hji64⟩ : ∃ j_ : Int, (wrap64 ((x7_1.length : Int) - 1)) = j_ := ⟨_, rfl⟩
                                replace H : (if 0 ≤ (ji64) then (if (ji64) < (x7_1.length : Int) then (if (rd x7_1 (ji64)) = 0 then (none) else (if y139.length < 17592186044416 then (darningref1_Run.l0 kj48 l0 l1 (y139 ++ [wrap64 (Int.tdiv (rd x7_1 (ji60)) (rd x7_1 (ji64)))]) l1 (l1.length : Int) (wrap64 (x15_1 + 1))) else (none))) else (none)) else (none)) = some (r1, r2, r3) := by first | (rw [hji64] at H; exact H) | (simp only [hji64] at H ⊢; exact H)
                                have hji64w : (IntKind.i64.wrap ((x7_1.length : Int) - 1)) = ji64 := (i64_w _).trans hji64
                                by_cases c65 : 0 ≤ (ji64)
                                · rw [if_pos c65] at H
                                  have c65b0 : decide (0 ≤ (ji64)) = true := decide_eq_true c65
                                  clear c65
                                  by_cases c66 : (ji64) < (x7_1.length : Int)
                                  · rw [if_pos c66] at H
                                    have c66b0 : decide ((ji64) < (x7_1.length : Int)) = true := decide_eq_true c66
                                    clear c66
                                    by_cases c67 : (rd x7_1 (ji64)) = 0
                                    · rw [if_pos c67] at H
                                      exact absurd H (by simp)
                                    · rw [if_neg c67] at H
                                      have c67b0 : ((rd x7_1 (ji64)) == 0) = false := beq_eq_false_iff_ne.mpr c67
                                      have c67b1 : ((rd x7_1 (ji64)) != 0) = true := bne_iff_ne.mpr c67
                                      by_cases c68 : y139.length < 17592186044416
                                      · rw [if_pos c68] at H
                                        have LMc68 := Aside0.mk c68
                                        clear c68
                                        obtain ⟨y144, hy144⟩ : ∃ y_ : List Int, y_ = (y139 ++ [wrap64 (Int.tdiv (rd x7_1 (ji60)) (rd x7_1 (ji64)))]) := ⟨_, rfl⟩
                                        replace H : (darningref1_Run.l0 kj48 l0 l1 y144 l1 (l1.length : Int) (wrap64 (x15_1 + 1))) = some (r1, r2, r3) := by first | (rw [hy144]; with_reducible exact H) | (have H2_ := (Option.bind_some _ _).symm.trans H; rw [hy144]; with_reducible exact H2_) | (have H2_ := (Option.bind_some _ _).symm.trans H; with_reducible exact H2_) | with_reducible exact H | (rw [hy144]; exact H) | exact H
                                        have Ny144 := Aside0.mk hy144
                                        clear hy144
                                        have H' := Aside0.mk H
                                        clear H
                                        try go_wp2
                                        have n0_ := Aside0.mk (Kd.R_drew HO_7.out)
                                        have n1_ := Aside0.mk (Kd.R_drew HO_11.out)
                                        have n2_ := Aside0.mk (blk_drew BK123.out)
                                        have n3_ := Aside0.mk (below_drew1 HB.out)
                                        clear HO_7
                                        clear HO_11
                                        clear BK123
                                        clear HB
                                        have HO_7 := n0_
                                        have HO_11 := n1_
                                        have BK123 := n2_
                                        have HB := n3_
                                        clear n0_ n1_ n2_ n3_
                                        obtain ⟨Ao70, co70, eo70⟩ := Kd.R_slice HO_11.out
                                        (first | subst eo70 | (injection eo70 with f1_ f2_ f3_; have f4_ := f1_.symm; have f5_ := f3_.symm; clear f1_ f2_ f3_; subst f4_; subst f5_))
                                        have q71 : ((ji60) : Int) ≤ ((y124.length : Int) : Int) := of_decide_eq_true (by first | (with_reducible assumption) | assumption)
                                        obtain ⟨i071, hi071, _, hsz71, _⟩ := info_parts info3
                                        have hcut71 := cut_to (P := Try.prog) 32 3 .i64 Try.underlying32 hi071 Ao70 y124.length co70 (ji60) (of_decide_eq_true (by first | (with_reducible assumption) | assumption)) q71 (Kd.R_reads' HO_11.out).2.1
                                        have hr71 := Kd.R_take (m := ((ji60) : Int).toNat) HO_11.out (by omega)
                                        have hy71 : y139.length = ((ji60) : Int).toNat := (by rw [Ny139.out, List.length_take]; omega)
                                        rw [← Ny139.out] at hr71
                                        rw [← hy71] at hr71 hcut71
                                        clear hy71 hi071 hsz71 HO_11
                                        have HO141 := Aside0.mk hr71
                                        clear hr71
                                        replace q71 := eq_true q71
                                        (try simp only [show (Value.slice Ao70 y124.length co70).ownBlock = (Value.slice Ao70 y139.length co70).ownBlock from by cases Ao70 <;> rfl] at *)
                                        have p142 : 0 ≤ ((ji60) : Int) := of_decide_eq_true (by first | (with_reducible assumption) | assumption)
                                        have q142 : (ji60) < (x7_1.length : Int) := of_decide_eq_true (by first | (with_reducible assumption) | assumption)
                                        obtain ⟨ad142, e142, hx142_0⟩ := Kd.at_int (Kd.R_reads' HO_7.out).2.2 (ji60) p142 q142
                                        cases e142
                                        replace p142 := eq_true p142
                                        replace q142 := eq_true q142
                                        have p143 : 0 ≤ ((ji64) : Int) := of_decide_eq_true (by first | (with_reducible assumption) | assumption)
                                        have q143 : (ji64) < (x7_1.length : Int) := of_decide_eq_true (by first | (with_reducible assumption) | assumption)
                                        obtain ⟨ad143, e143, hx143_0⟩ := Kd.at_int (Kd.R_reads' HO_7.out).2.2 (ji64) p143 q143
                                        obtain rfl : ad142 = ad143 := (by injection e143)
                                        replace p143 := eq_true p143
                                        replace q143 := eq_true q143
                                        refine start_ (n := 18) (S := fun w' => w'.cell? (ad142.add ((ji60)).toNat) = some (.int .i64 (rd x7_1 (ji60))) ∧ w'.cell? (ad142.add ((ji64)).toNat) = some (.int .i64 (rd x7_1 (ji64)))) (ds := [15, 16]) #[false, false, false, false, false, false, false, false, false, false, false, false, false, false, false, false, false, false] (by kernel_rfl) rfl rfl ⟨hx142_0, hx143_0⟩ (fun hHeld => ?_); refine with_tabW darningref1_Run.tab18 darningref1_Run.bits18 (fun HT_ HW_ => ?_)
                                        (first | generalize wc.drew = w69 at HO_7 HO_11 BK123 HB HO141 hx142_0 hx143_0 hHeld ⊢ | (generalize wc.drew = w69 at *))
                                        refine pure_ (i := 0) (N := some 70) (v := ?_) (a' := ?_) #[true, false, false, false, false, false, false, false, false, false, false, false, false, false, false, false, false, false] rfl rfl (any_of HT_.out (by kernel_rfl)) (fun _ _ _ h => h) (Or.inl ⟨by rfl, ?_⟩) ?_ ?_
                                        rotate_left
                                        · intro w'
                                          go_simp
                                          with_reducible rfl
                                        rotate_left
                                        · simp only [Act.put, List.setIfInBounds_toArray, List.set_cons_zero, List.set_cons_succ, i64_w, i32_w]
                                          rfl
                                        refine pure_ (i := 1) (N := some 71) (v := ?_) (a' := ?_) #[true, true, false, false, false, false, false, false, false, false, false, false, false, false, false, false, false, false] rfl rfl (any_of HT_.out (by kernel_rfl)) (fun _ _ _ h => h) (Or.inl ⟨by rfl, ?_⟩) ?_ ?_
                                        rotate_left
                                        · intro w'
                                          go_simp
                                          with_reducible rfl
                                        rotate_left
                                        · simp only [Act.put, List.setIfInBounds_toArray, List.set_cons_zero, List.set_cons_succ, i64_w, i32_w]
                                          rfl
                                        refine pure_ (i := 2) (N := some 72) (v := ?_) (a' := ?_) #[true, true, true, false, false, false, false, false, false, false, false, false, false, false, false, false, false, false] rfl rfl (any_of HT_.out (by kernel_rfl)) (fun _ _ _ h => h) (Or.inl ⟨by rfl, ?_⟩) ?_ ?_
                                        rotate_left
                                        · intro w'
                                          go_simp
                                          with_reducible rfl
                                        rotate_left
                                        · simp only [Act.put, List.setIfInBounds_toArray, List.set_cons_zero, List.set_cons_succ, i64_w, i32_w]
                                          rfl
                                        refine pure_ (i := 3) (N := some 73) (v := ?_) (a' := ?_) #[true, true, true, true, false, false, false, false, false, false, false, false, false, false, false, false, false, false] rfl rfl (any_of HT_.out (by kernel_rfl)) (fun _ _ _ h => h) (Or.inl ⟨by rfl, ?_⟩) ?_ ?_
                                        rotate_left
                                        · intro w'
                                          go_simp
                                          with_reducible rfl
                                        rotate_left
                                        · simp only [Act.put, List.setIfInBounds_toArray, List.set_cons_zero, List.set_cons_succ, i64_w, i32_w]
                                          rfl
                                        refine pure_ (i := 4) (N := some 74) (v := ?_) (a' := ?_) #[true, true, true, true, true, false, false, false, false, false, false, false, false, false, false, false, false, false] rfl rfl (any_of HT_.out (by kernel_rfl)) (fun _ _ _ h => h) (Or.inl ⟨by rfl, ?_⟩) ?_ ?_
                                        rotate_left
                                        · intro w'
                                          go_simp
                                          with_reducible rfl
                                        rotate_left
                                        · simp only [Act.put, List.setIfInBounds_toArray, List.set_cons_zero, List.set_cons_succ, i64_w, i32_w]
                                          rfl
                                        refine pure_ (i := 5) (N := some 75) (v := ?_) (a' := ?_) #[true, true, true, true, true, true, false, false, false, false, false, false, false, false, false, false, false, false] rfl rfl (any_of HT_.out (by kernel_rfl)) (fun _ _ _ h => h) (Or.inl ⟨by rfl, ?_⟩) ?_ ?_
                                        rotate_left
                                        · intro w'
                                          go_simp
                                          with_reducible rfl
                                        rotate_left
                                        · simp only [Act.put, List.setIfInBounds_toArray, List.set_cons_zero, List.set_cons_succ, i64_w, i32_w]
                                          rfl
                                        refine pure_ (i := 6) (N := some 76) (v := ?_) (a' := ?_) #[true, true, true, true, true, true, true, false, false, false, false, false, false, false, false, false, false, false] rfl rfl (any_of HT_.out (by kernel_rfl)) (fun _ _ _ h => h) (Or.inl ⟨by rfl, ?_⟩) ?_ ?_
                                        rotate_left
                                        · intro w'
                                          go_simp
                                          with_reducible rfl
                                        rotate_left
                                        · simp only [Act.put, List.setIfInBounds_toArray, List.set_cons_zero, List.set_cons_succ, i64_w, i32_w]
                                          rfl
                                        refine pure_ (i := 7) (N := some 77) (v := ?_) (a' := ?_) #[true, true, true, true, true, true, true, true, false, false, false, false, false, false, false, false, false, false] rfl rfl (any_of HT_.out (by kernel_rfl)) (fun _ _ _ h => h) (Or.inl ⟨by rfl, ?_⟩) ?_ ?_
                                        rotate_left
                                        · intro w'
                                          go_simp
                                          with_reducible rfl
                                        rotate_left
                                        · simp only [Act.put, List.setIfInBounds_toArray, List.set_cons_zero, List.set_cons_succ, i64_w, i32_w]
                                          rfl
                                        refine pure_ (i := 9) (N := some 79) (v := ?_) (a' := ?_) #[true, true, true, true, true, true, true, true, false, true, false, false, false, false, false, false, false, false] rfl rfl (any_of HT_.out (by kernel_rfl)) (fun _ _ _ h => h) (Or.inl ⟨by rfl, ?_⟩) ?_ ?_
                                        rotate_left
                                        · intro w'
                                          go_simp
                                          with_reducible rfl
                                        rotate_left
                                        · simp only [Act.put, List.setIfInBounds_toArray, List.set_cons_zero, List.set_cons_succ, i64_w, i32_w]
                                          rfl
                                        refine pure_ (i := 10) (N := some 80) (v := ?_) (a' := ?_) #[true, true, true, true, true, true, true, true, false, true, true, false, false, false, false, false, false, false] rfl rfl (any_of HT_.out (by kernel_rfl)) (fun _ _ _ h => h) (Or.inl ⟨by rfl, ?_⟩) ?_ ?_
                                        rotate_left
                                        · intro w'
                                          go_simp
                                          with_reducible rfl
                                        rotate_left
                                        · simp only [Act.put, List.setIfInBounds_toArray, List.set_cons_zero, List.set_cons_succ, i64_w, i32_w]
                                          rfl
                                        refine pure_ (i := 11) (N := some 81) (v := ?_) (a' := ?_) #[true, true, true, true, true, true, true, true, false, true, true, true, false, false, false, false, false, false] rfl rfl (any_of HT_.out (by kernel_rfl)) (fun _ _ _ h => h) (Or.inl ⟨by rfl, ?_⟩) ?_ ?_
                                        rotate_left
                                        · intro w'
                                          go_simp
                                          with_reducible rfl
                                        rotate_left
                                        · simp only [Act.put, List.setIfInBounds_toArray, List.set_cons_zero, List.set_cons_succ, i64_w, i32_w]
                                          rfl
                                        refine pure_ (i := 12) (N := some 82) (v := ?_) (a' := ?_) #[true, true, true, true, true, true, true, true, false, true, true, true, true, false, false, false, false, false] rfl rfl (any_of HT_.out (by kernel_rfl)) (fun _ _ _ h => h) (Or.inl ⟨by rfl, ?_⟩) ?_ ?_
                                        rotate_left
                                        · intro w'
                                          go_simp
                                          with_reducible rfl
                                        rotate_left
                                        · simp only [Act.put, List.setIfInBounds_toArray, List.set_cons_zero, List.set_cons_succ, i64_w, i32_w]
                                          rfl
                                        refine take_ (i := 8) (N := some 78) (v := ?_) (a' := ?_) #[true, true, true, true, true, true, true, true, true, true, true, true, true, false, false, false, false, false] rfl rfl (take_ofW HT_.out HW_.out (by kernel_rfl)) (fun _ _ _ h => h) (Or.inl ⟨by rfl, ?_⟩) hHeld ?_ ?_
                                        rotate_left
                                        · rintro w' ⟨s0, s1⟩
                                          go_simp
                                          with_reducible rfl
                                        rotate_left
                                        · simp only [Act.put, List.setIfInBounds_toArray, List.set_cons_zero, List.set_cons_succ, i64_w, i32_w]
                                          rfl
                                        refine take_ (i := 13) (N := some 83) (v := ?_) (a' := ?_) #[true, true, true, true, true, true, true, true, true, true, true, true, true, true, false, false, false, false] rfl rfl (take_ofW HT_.out HW_.out (by kernel_rfl)) (fun _ _ _ h => h) (Or.inl ⟨by rfl, ?_⟩) hHeld ?_ ?_
                                        rotate_left
                                        · rintro w' ⟨s0, s1⟩
                                          go_simp
                                          with_reducible rfl
                                        rotate_left
                                        · simp only [Act.put, List.setIfInBounds_toArray, List.set_cons_zero, List.set_cons_succ, i64_w, i32_w]
                                          rfl
                                        refine pure_ (i := 14) (N := some 84) (v := ?_) (a' := ?_) #[true, true, true, true, true, true, true, true, true, true, true, true, true, true, true, false, false, false] rfl rfl (any_of HT_.out (by kernel_rfl)) (fun _ _ _ h => h) (Or.inl ⟨by rfl, ?_⟩) ?_ ?_
                                        rotate_left
                                        · intro w'
                                          go_simp
                                          with_reducible rfl
                                        rotate_left
                                        · simp only [Act.put, List.setIfInBounds_toArray, List.set_cons_zero, List.set_cons_succ, i64_w, i32_w]
                                          rfl
                                        refine last_ (i := 15) (N := some 85) #[true, true, true, true, true, true, true, true, true, true, true, true, true, true, true, true, false, false] rfl rfl (one_of HT_.out (by kernel_rfl)) (by decide) (fun K hK => ?_)
                                        refine value_ (w1 := ?_) (v := ?_) (by rfl) rfl ?_ ?_
                                        rotate_left 2
                                        · go_simp
                                          constructor
                                          · rfl
                                          · rfl
                                        refine hK.out _ _ ?_
                                        clear hK K
                                        refine norm_ (a' := ?_) ?_ ?_
                                        rotate_left
                                        · show Act.put _ (some 85) _ = _
                                          simp only [Act.put, List.setIfInBounds_toArray, List.set_cons_zero, List.set_cons_succ, i64_w, i32_w]
                                          rfl
                                        refine last_ (i := 16) (N := some 86) #[true, true, true, true, true, true, true, true, true, true, true, true, true, true, true, true, true, false] rfl rfl (one_of HT_.out (by kernel_rfl)) (by decide) (fun K hK => ?_)
                                        refine Kd.R_append_step (Kd.int .i64) (w0 := w) w.heap.size (by rfl) (.tmp 73) (.tmp 85) 32 3 (.int .i64 0) 8 rfl Try.underlying32 info3 rfl (by decide) (by omega) (.slice Ao70 y139.length co70) y139 (wrap64 (Int.tdiv (rd x7_1 (ji60)) (rd x7_1 (ji64)))) [.int .i64 (wrap64 (Int.tdiv (rd x7_1 (ji60)) (rd x7_1 (ji64))))] (fun k_ => some k_ ≠ (.slice (some ad142) x7_1.length co52 : Value).ownBlock) (fun _ => False) rfl rfl ?aP (fun _ hk => hk.elim) ?aF ?aO ?aB ?aS ?aL ?_
                                        (case aP => exact rfl)
                                        (case aB => exact (by repeat (first | (with_reducible first | exact HB.out | apply below_alloc | apply pw_below_drewN | apply below_drew1 | refine below_set ?_ GE123.out) | exact HB.out)))
                                        (case aF => exact (fun k_ hk => Kd.fresh' (Kd.R_lt (by (with_reducible repeat (first | apply Kd.R_alloc | apply Kd.R_drewN | apply Kd.R_drew)); exact HO_7.out)) k_ hk))
                                        (case aO => exact (by (with_reducible repeat (first | apply Kd.R_alloc | apply Kd.R_drewN | apply Kd.R_drew)); exact HO141.out))
                                        (case aS => exact (below_size (by repeat (first | (with_reducible first | exact HB.out | apply below_alloc | apply pw_below_drewN | apply below_drew1 | refine below_set ?_ GE123.out) | exact HB.out))))
                                        (case aL => have := LMc68.out; omega)
                                        intro v145 w72 ho hb hg hat
                                        rw [← Ny144.out] at ho
                                        have n0_ := Aside0.mk (Kd.R_after (ok := (fun _ => True)) (by (with_reducible repeat (first | apply Kd.R_alloc | apply Kd.R_drewN | apply Kd.R_drew)); exact Kd.R_mono HO_7.out (fun _ hk => ⟨trivial, hk⟩)) hg hat)
                                        have n1_ := Aside0.mk (blk_grown (g := gb123) (o := .cells #[.int .i64 ((rd_T50 l1 x15_1).f0), .int .i64 ((rd_T50 l1 x15_1).f1)] 50 (0, 0)) (by (with_reducible repeat (first | refine blk_drewN ?_ _ | refine blk_drew ?_ | refine blk_alloc ?_ _)); exact BK123.out) hg (Kd.R_ne HO141.out BK123.out (by decide)))
                                        have n2_ := Aside0.mk (hb)
                                        have n3_ := Aside0.mk (ho)
                                        clear HO_7
                                        clear BK123
                                        clear HB
                                        clear HO141
                                        have HO_7 := n0_
                                        have BK123 := n1_
                                        have HB := n2_
                                        have HO146 := n3_
                                        clear n0_ n1_ n2_ n3_
                                        clear ho hb hg hat
                                        refine hK.out _ _ ?_
                                        clear hK K
                                        refine norm_ (a' := ?_) ?_ ?_
                                        rotate_left
                                        · show Act.put _ (some 86) _ = _
                                          simp only [Act.put, List.setIfInBounds_toArray, List.set_cons_zero, List.set_cons_succ, i64_w, i32_w]
                                          rfl
                                        refine pure_ (i := 17) (N := some 11) (v := ?_) (a' := ?_) #[true, true, true, true, true, true, true, true, true, true, true, true, true, true, true, true, true, true] rfl rfl (any_of HT_.out (by kernel_rfl)) (fun _ _ _ h => h) (Or.inl ⟨by rfl, ?_⟩) ?_ ?_
                                        rotate_left
                                        · intro w'
                                          go_simp
                                          with_reducible rfl
                                        rotate_left
                                        · simp only [Act.put, List.setIfInBounds_toArray, List.set_cons_zero, List.set_cons_succ, i64_w, i32_w]
                                          rfl
                                        refine done_ (done_of HT_.out (by kernel_rfl)) ?_
                                        try go_wp2
                                        go_roundg kj48
                                        case measure => have := HK1.out; have := HJ48.out; omega
                                        case rel => exact ⟨(y144), (wrap64 (x15_1 + 1)), (by first | rfl | (simp; done) | (simp [*]; done)), (by first | exact H' | ((try rw [hji24]); (try rw [hji28]); (try rw [hji56]); (try rw [hji60]); (try rw [hji64]); exact H')), ⟨by have := HK1.out; have := HJ48.out; omega⟩, ⟨by (with_reducible repeat (first | apply Kd.R_alloc | apply Kd.R_drewN | apply Kd.R_drew)); exact Kd.R_mono HO146.out (fun _ hk => trivial)⟩, ⟨by repeat (first | (with_reducible first | exact HB.out | apply below_alloc | apply pw_below_drewN | apply below_drew1 | refine below_set ?_ GE123.out) | exact HB.out)⟩⟩
                                      · rw [if_neg c68] at H
                                        exact absurd H (by simp)
                                  · rw [if_neg c66] at H
                                    exact absurd H (by simp)
                                · rw [if_neg c65] at H
                                  exact absurd H (by simp)
                              · rw [if_neg c63] at H
                                exact absurd H (by simp)
                            · rw [if_neg c62] at H
                              exact absurd H (by simp)
                          · rw [if_neg c61] at H
                            exact absurd H (by simp)
                        · replace c59 := Bool.eq_false_iff.mpr c59
                          subst c59
                          have H1 : (some (x7_1, x15_1, false)) = some (r1, r2, r3) := by rw [if_neg (show ¬ (false = true) by decide)] at H; exact H
                          clear H
                          have H := H1
                          clear H1
                          simp only [Option.some.injEq, Prod.mk.injEq] at H
                          obtain ⟨rfl, rfl, rfl⟩ := H
                          go_wp2
                          go_ret3
                          exact ⟨_, by first | rfl | (simp [errW_none, errW_some] <;> rfl) | (simp [*, errW_none, errW_some] <;> rfl), by (with_reducible repeat (first | apply Kd.R_alloc | apply Kd.R_drewN | apply Kd.R_drew)); exact Kd.R_mono HO_7.out (fun _ hk => trivial), by repeat (first | (with_reducible first | exact HB.out | apply below_alloc | apply pw_below_drewN | apply below_drew1 | refine below_set ?_ GE123.out) | exact HB.out)⟩
                  · rw [if_neg c48] at H
                    have c48b0 : (((rd_T50 l1 x15_1).f0) == 3) = false := beq_eq_false_iff_ne.mpr c48
                    have c48b1 : (((rd_T50 l1 x15_1).f0) != 3) = true := bne_iff_ne.mpr c48
                    by_cases c73 : ((rd_T50 l1 x15_1).f0) = 4
                    · rw [if_pos c73] at H
                      have c73b0 : (((rd_T50 l1 x15_1).f0) == 4) = true := beq_iff_eq.mpr c73
                      have c73b1 : (((rd_T50 l1 x15_1).f0) != 4) = false := bne_eq_false_iff_eq.mpr c73
                      clear c73
                      have HC74 := Aside0.mk H
                      clear H
                      have p122 : 0 ≤ (x15_1 : Int) := of_decide_eq_true (by first | (with_reducible assumption) | assumption)
                      have q122 : x15_1 < (l1.length : Int) := of_decide_eq_true (by first | (with_reducible assumption) | assumption)
                      obtain ⟨ad122, e122, hx122_0, hx122_1⟩ := at_T50 HR1.out x15_1 p122 q122
                      cases e122
                      replace hx122_0 := (HB.out.cell (World.block_lt_of_cell? w _ hx122_0)).trans hx122_0
                      replace hx122_1 := (HB.out.cell (World.block_lt_of_cell? w _ hx122_1)).trans hx122_1
                      replace p122 := eq_true p122
                      replace q122 := eq_true q122
                      go_upto_region 20 with (first | ((with_reducible refine gate_dst (N := 9) rfl ?_); (try (refine gate_guard (by rfl) ?_; dsimp only)); refine box_event ?hg (N := 9) ?hd (cs := #[.int .i64 0, .int .i64 0]) (t := 50) ?hr ?_; (case hd => rfl); (case hg => rfl); (case hr => first | (go_simp; done) | (go_simp; rfl)); intro gb123 hg w75 hbox hb; have n0_ := Aside0.mk (Kd.R_below (by (with_reducible repeat (first | apply Kd.R_alloc | apply Kd.R_drewN | apply Kd.R_drew)); exact HO_7.out) hb); have n1_ := Aside0.mk (below_step (by repeat (first | (with_reducible first | exact HB.out | apply below_alloc | apply pw_below_drewN | apply below_drew1) | exact HB.out)) hb); have n2_ := Aside0.mk (hbox); have n3_ := Aside0.mk ((by rw [hg]; exact (below_size (by repeat (first | (with_reducible first | exact HB.out | apply below_alloc | apply pw_below_drewN | apply below_drew1) | exact HB.out))) : w.heap.size ≤ gb123)); have n4_ := Aside0.mk ((by rw [hg]; exact (below_size (by repeat (first | (with_reducible first | exact HB.out | apply below_alloc | apply pw_below_drewN | apply below_drew1) | exact HB.out))) : w.heap.size ≤ gb123)); clear HO_7; clear HB; have HO_7 := n0_; have HB := n1_; have BK123 := n2_; have GW123 := n3_; have GE123 := n4_; clear n0_ n1_ n2_ n3_ n4_; clear hb hbox hg; have hcz76_0 : w75.cell? ⟨gb123, 0, none⟩ = some (.int .i64 0) := (blk_cell BK123.out 0).trans rfl; have hcz76_1 : w75.cell? ⟨gb123, 1, none⟩ = some (.int .i64 0) := (blk_cell BK123.out 1).trans rfl; have hfz76_0 := blk_frozen BK123.out 0; have hfz76_1 := blk_frozen BK123.out 1; obtain ⟨Ao77, co77, eo77⟩ := Kd.R_slice HO_7.out; subst eo77) | ((with_reducible refine gate_builtin (b := .append) (xs := #[.const (.slice none 0 0), .tmp 22]) rfl ?_); (try (refine gate_guard (by rfl) ?_; dsimp only)); at_builtin; refine Kd.R_append_rows (Kd.int .i64) (w0 := w) w.heap.size rfl (.const (.slice none 0 0)) (.tmp 22) 32 3 (.int .i64 0) 8 rfl Try.underlying32 info3 rfl (by decide) (by omega) (.slice none 0 0) ([] : List Int) x7_1 _ _ _ (fun k_ => some k_ ≠ (.slice Ao77 x7_1.length co77 : Value).ownBlock) (fun _ => False) rfl rfl ?aO ?aR (fun _ _ h => h) (fun _ h => h.elim) ?aF ?aB ?aS ?aL ?_; (case aR => refine (Kd.R_reads' (e := 3) (base := w.heap.size) (ok := fun k_ => True) (n := x7_1.length) (c := co77) ?_).2.2; exact (by (with_reducible repeat (first | apply Kd.R_alloc | apply Kd.R_drewN | apply Kd.R_drew)); exact (Kd.R_mono (Kd.R_far (p := ⟨gb123, 1, none⟩) (Kd.R_far (p := ⟨gb123, 0, none⟩) (Kd.R_types HO_7.out BK123.out (by decide)) (fun _ hk => hk.2) (.int .i64 ((rd_T50 l1 x15_1).f0))) (fun _ hk => hk.2) (.int .i64 ((rd_T50 l1 x15_1).f1))) (fun _ h_ => h_.1)))); (case aB => exact (by repeat (first | (with_reducible first | exact HB.out | apply below_alloc | apply pw_below_drewN | apply below_drew1 | refine below_set ?_ GE123.out) | exact HB.out))); (case aF => exact (fun k_ hk => Kd.fresh' (Kd.R_lt (by (with_reducible repeat (first | apply Kd.R_alloc | apply Kd.R_drewN | apply Kd.R_drew)); exact (Kd.R_mono (Kd.R_far (p := ⟨gb123, 1, none⟩) (Kd.R_far (p := ⟨gb123, 0, none⟩) (Kd.R_types HO_7.out BK123.out (by decide)) (fun _ hk => hk.2) (.int .i64 ((rd_T50 l1 x15_1).f0))) (fun _ hk => hk.2) (.int .i64 ((rd_T50 l1 x15_1).f1))) (fun _ h_ => h_.1)))) k_ hk)); (case aO => exact ((Kd.R_nil _ _ _ _ (fun k_ => some k_ ≠ (.slice Ao77 x7_1.length co77 : Value).ownBlock)))); (case aS => exact (below_size (by repeat (first | (with_reducible first | exact HB.out | apply below_alloc | apply pw_below_drewN | apply below_drew1 | refine below_set ?_ GE123.out) | exact HB.out)))); (case aL => have := LMc6.out; omega); intro v125 w78 ho hb hg hat; rw [← Ny124.out] at ho; have n0_ := Aside0.mk (Kd.R_after (Kd.R_apart_nil (by (with_reducible repeat (first | apply Kd.R_alloc | apply Kd.R_drewN | apply Kd.R_drew)); exact (Kd.R_mono (Kd.R_far (p := ⟨gb123, 1, none⟩) (Kd.R_far (p := ⟨gb123, 0, none⟩) (Kd.R_types HO_7.out BK123.out (by decide)) (fun _ hk => hk.2) (.int .i64 ((rd_T50 l1 x15_1).f0))) (fun _ hk => hk.2) (.int .i64 ((rd_T50 l1 x15_1).f1))) (fun _ h_ => h_.1)))) hg hat); have n1_ := Aside0.mk (blk_grown (g := gb123) (o := .cells #[.int .i64 ((rd_T50 l1 x15_1).f0), .int .i64 ((rd_T50 l1 x15_1).f1)] 50 (0, 0)) (by (with_reducible repeat (first | refine blk_drewN ?_ _ | refine blk_drew ?_ | refine blk_alloc ?_ _)); refine blk_put (cs := #[.int .i64 ((rd_T50 l1 x15_1).f0), .int .i64 0]) ?_ 1 _ rfl; (with_reducible repeat (first | refine blk_drewN ?_ _ | refine blk_drew ?_ | refine blk_alloc ?_ _)); refine blk_put (cs := #[.int .i64 0, .int .i64 0]) ?_ 0 _ rfl; (with_reducible repeat (first | refine blk_drewN ?_ _ | refine blk_drew ?_ | refine blk_alloc ?_ _)); exact BK123.out) hg (by simp [Value.ownBlock])); have n2_ := Aside0.mk (hb); have n3_ := Aside0.mk (ho); clear HO_7; clear BK123; clear HB; have HO_7 := n0_; have BK123 := n1_; have HB := n2_; have HO126 := n3_; clear n0_ n1_ n2_ n3_; clear ho hb hg hat; have hcz79_0 : w78.cell? ⟨gb123, 0, none⟩ = some (.int .i64 ((rd_T50 l1 x15_1).f0)) := (blk_cell BK123.out 0).trans rfl; have hcz79_1 : w78.cell? ⟨gb123, 1, none⟩ = some (.int .i64 ((rd_T50 l1 x15_1).f1)) := (blk_cell BK123.out 1).trans rfl; have hfz79_0 := blk_frozen BK123.out 0; have hfz79_1 := blk_frozen BK123.out 1))
                      (try simp only [Act.put, List.setIfInBounds_toArray, List.set_cons_zero, List.set_cons_succ])
                      go_cut [12] (fun v12 wc => ∃ (kq : Nat) (x12_73 : Bool), v12 = .bool x12_73 ∧ Aside0 (darningref1_Run.j2 kq l0 l1 x7_1 x15_1 (x7_1.length : Int) y124 x12_73 l1 (l1.length : Int) x15_1 = some (r1, r2, r3)) ∧ Aside0 (kq ≤ k1) ∧ Aside0 (Kd.R (Kd.int .i64) 3 wc w.heap.size (fun k_ => some k_ ≠ (v125 : Value).ownBlock) (.slice Ao77 x7_1.length co77) x7_1) ∧ Aside0 (Kd.R (Kd.int .i64) 3 wc w.heap.size (fun k_ => some k_ ≠ ((.slice Ao77 x7_1.length co77) : Value).ownBlock) v125 y124) ∧ Aside0 (wc.heap[gb123]? = some (.cells #[.int .i64 ((rd_T50 l1 x15_1).f0), .int .i64 ((rd_T50 l1 x15_1).f1)] 50 (0, 0))) ∧ Aside0 (Below w.heap.size w wc))
                      case first =>
                        have H := HC74.out
                        clear HC74
                        by_cases c80 : (x7_1.length : Int) ≥ 1
                        · rw [if_pos c80] at H
                          have c80b0 : decide (1 ≤ (x7_1.length : Int)) = true := decide_eq_true c80
                          have c80b1 : decide (1 ≤ x7_1.length) = true := decide_eq_true (by omega)
                          clear c80
                          (first | rw [c80b0] | (simp only [i64_w, i32_w]; rw [c80b0]) | skip)
                          obtain ⟨ji81, hji81⟩ : ∃ j_ : Int, (wrap64 ((x7_1.length : Int) - 1)) = j_ := ⟨_, rfl⟩
                          replace H : (if 0 ≤ (ji81) then (if (ji81) < (x7_1.length : Int) then (if (rd x7_1 (ji81)) ≥ 0 then (darningref1_Run.j2 k1 l0 l1 x7_1 x15_1 (x7_1.length : Int) y124 (decide ((rd x7_1 (ji81)) < (l0.length : Int))) l1 (l1.length : Int) x15_1) else (darningref1_Run.j2 k1 l0 l1 x7_1 x15_1 (x7_1.length : Int) y124 false l1 (l1.length : Int) x15_1)) else (none)) else (none)) = some (r1, r2, r3) := by first | (rw [hji81] at H; exact H) | (simp only [hji81] at H ⊢; exact H)
                          have hji81w : (IntKind.i64.wrap ((x7_1.length : Int) - 1)) = ji81 := (i64_w _).trans hji81
                          by_cases c82 : 0 ≤ (ji81)
                          · rw [if_pos c82] at H
                            have c82b0 : decide (0 ≤ (ji81)) = true := decide_eq_true c82
                            clear c82
                            by_cases c83 : (ji81) < (x7_1.length : Int)
                            · rw [if_pos c83] at H
                              have c83b0 : decide ((ji81) < (x7_1.length : Int)) = true := decide_eq_true c83
                              clear c83
                              by_cases c84 : (rd x7_1 (ji81)) ≥ 0
                              · rw [if_pos c84] at H
                                have c84b0 : decide (0 ≤ (rd x7_1 (ji81))) = true := decide_eq_true c84
                                clear c84
                                have H' := Aside0.mk H
                                clear H
                                have p147 : 0 ≤ ((ji81) : Int) := of_decide_eq_true (by first | (with_reducible assumption) | assumption)
                                have q147 : (ji81) < (x7_1.length : Int) := of_decide_eq_true (by first | (with_reducible assumption) | assumption)
                                obtain ⟨ad147, e147, hx147_0⟩ := Kd.at_int (Kd.R_reads' HO_7.out).2.2 (ji81) p147 q147
                                cases e147
                                replace p147 := eq_true p147
                                replace q147 := eq_true q147
                                have p148 : 0 ≤ ((ji81) : Int) := of_decide_eq_true (by first | (with_reducible assumption) | assumption)
                                have q148 : (ji81) < (x7_1.length : Int) := of_decide_eq_true (by first | (with_reducible assumption) | assumption)
                                obtain ⟨ad148, e148, hx148_0⟩ := Kd.at_int (Kd.R_reads' HO_7.out).2.2 (ji81) p148 q148
                                obtain rfl : ad147 = ad148 := (by injection e148)
                                replace p148 := eq_true p148
                                replace q148 := eq_true q148
                                go_wp2
                                go_meet
                                case rel => exact ⟨_, (decide ((rd x7_1 (ji81)) < (l0.length : Int))), (by first | rfl | (simp; done) | (simp only [← hji81] <;> (first | rfl | simp)) | (simp [*]; done)), (by first | exact H' | (simp only [hji81]; exact H')), ⟨by have := HK1.out; first | omega | exact Nat.le_refl _⟩, ⟨by (with_reducible repeat (first | apply Kd.R_alloc | apply Kd.R_drewN | apply Kd.R_drew)); exact Kd.R_mono HO_7.out (fun _ hk => hk.2)⟩, ⟨by (with_reducible repeat (first | apply Kd.R_alloc | apply Kd.R_drewN | apply Kd.R_drew)); exact HO126.out⟩, ⟨by (with_reducible repeat (first | refine blk_drewN ?_ _ | refine blk_drew ?_ | refine blk_alloc ?_ _)); exact BK123.out⟩, ⟨by repeat (first | (with_reducible first | exact HB.out | apply below_alloc | apply pw_below_drewN | apply below_drew1 | refine below_set ?_ GE123.out) | exact HB.out)⟩⟩
                              · rw [if_neg c84] at H
                                have c84b0 : decide (0 ≤ (rd x7_1 (ji81))) = false := decide_eq_false c84
                                clear c84
                                have H' := Aside0.mk H
                                clear H
                                have p147 : 0 ≤ ((ji81) : Int) := of_decide_eq_true (by first | (with_reducible assumption) | assumption)
                                have q147 : (ji81) < (x7_1.length : Int) := of_decide_eq_true (by first | (with_reducible assumption) | assumption)
                                obtain ⟨ad147, e147, hx147_0⟩ := Kd.at_int (Kd.R_reads' HO_7.out).2.2 (ji81) p147 q147
                                cases e147
                                replace p147 := eq_true p147
                                replace q147 := eq_true q147
                                go_wp2
                                go_meet
                                case rel => exact ⟨_, (false), (by first | rfl | (simp; done) | (simp [*]; done)), (by first | exact H' | ((try rw [hji24]); (try rw [hji28]); (try rw [hji56]); (try rw [hji60]); (try rw [hji64]); (try rw [hji81]); exact H')), ⟨by have := HK1.out; first | omega | exact Nat.le_refl _⟩, ⟨by (with_reducible repeat (first | apply Kd.R_alloc | apply Kd.R_drewN | apply Kd.R_drew)); exact Kd.R_mono HO_7.out (fun _ hk => hk.2)⟩, ⟨by (with_reducible repeat (first | apply Kd.R_alloc | apply Kd.R_drewN | apply Kd.R_drew)); exact HO126.out⟩, ⟨by (with_reducible repeat (first | refine blk_drewN ?_ _ | refine blk_drew ?_ | refine blk_alloc ?_ _)); exact BK123.out⟩, ⟨by repeat (first | (with_reducible first | exact HB.out | apply below_alloc | apply pw_below_drewN | apply below_drew1 | refine below_set ?_ GE123.out) | exact HB.out)⟩⟩
                            · rw [if_neg c83] at H
                              exact absurd H (by simp)
                          · rw [if_neg c82] at H
                            exact absurd H (by simp)
                        · rw [if_neg c80] at H
                          have c80b0 : decide (1 ≤ (x7_1.length : Int)) = false := decide_eq_false c80
                          have c80b1 : decide (1 ≤ x7_1.length) = false := decide_eq_false (by omega)
                          clear c80
                          (first | rw [c80b0] | (simp only [i64_w, i32_w]; rw [c80b0]) | skip)
                          have H' := Aside0.mk H
                          clear H
                          go_wp2
                          go_meet
                          case rel => exact ⟨_, (false), (by first | rfl | (simp; done) | (simp [*]; done)), (by first | exact H' | ((try rw [hji24]); (try rw [hji28]); (try rw [hji56]); (try rw [hji60]); (try rw [hji64]); (try rw [hji81]); exact H')), ⟨by have := HK1.out; first | omega | exact Nat.le_refl _⟩, ⟨by (with_reducible repeat (first | apply Kd.R_alloc | apply Kd.R_drewN | apply Kd.R_drew)); exact Kd.R_mono HO_7.out (fun _ hk => hk.2)⟩, ⟨by (with_reducible repeat (first | apply Kd.R_alloc | apply Kd.R_drewN | apply Kd.R_drew)); exact HO126.out⟩, ⟨by (with_reducible repeat (first | refine blk_drewN ?_ _ | refine blk_drew ?_ | refine blk_alloc ?_ _)); exact BK123.out⟩, ⟨by repeat (first | (with_reducible first | exact HB.out | apply below_alloc | apply pw_below_drewN | apply below_drew1 | refine below_set ?_ GE123.out) | exact HB.out)⟩⟩
                      case rest =>
                        clear HC74
                        try clear c1
                        try clear p1
                        try clear q1
                        try clear hx1
                        try clear c2
                        try clear p2
                        try clear c3
                        try clear c3b0
                        try clear c4
                        try clear c4b0
                        try clear q4
                        try clear c5
                        try clear c5b0
                        try clear c6
                        try clear p6
                        try clear c7
                        try clear c7b0
                        try clear c7b1
                        try clear q7
                        try clear c8
                        try clear c9
                        try clear c9b0
                        try clear c9b1
                        try clear p12
                        try clear q12
                        try clear hx12
                        try clear p13
                        try clear q13
                        try clear hx13
                        try clear p14
                        try clear q14
                        try clear hx14
                        try clear c22
                        try clear c22b0
                        try clear c22b1
                        try clear c23
                        try clear c23b0
                        try clear c23b1
                        try clear c25
                        try clear c25b0
                        try clear c25b1
                        try clear c26
                        try clear c26b0
                        try clear c26b1
                        try clear c27
                        try clear c27b0
                        try clear c29
                        try clear c29b0
                        try clear c30
                        try clear c30b0
                        try clear c31
                        try clear c32
                        try clear c32b0
                        try clear c32b1
                        try clear c34
                        try clear q40
                        try clear c42
                        try clear c42b0
                        try clear c42b1
                        try clear c48
                        try clear c48b0
                        try clear c48b1
                        try clear c55
                        try clear c55b0
                        try clear c55b1
                        try clear c57
                        try clear c57b0
                        try clear c58
                        try clear c58b0
                        try clear c59
                        try clear c61
                        try clear c61b0
                        try clear c61b1
                        try clear c62
                        try clear c62b0
                        try clear c62b1
                        try clear c63
                        try clear c63b0
                        try clear p64
                        try clear c65
                        try clear c65b0
                        try clear c66
                        try clear c66b0
                        try clear c67
                        try clear c67b0
                        try clear c67b1
                        try clear c68
                        try clear q71
                        try clear c73
                        try clear c73b0
                        try clear c73b1
                        try clear c80
                        try clear c80b0
                        try clear c80b1
                        try clear c82
                        try clear c82b0
                        try clear c83
                        try clear c83b0
                        try clear c84
                        try clear c84b0
                        try clear hcz11_0
                        try clear hcz11_1
                        try clear hcz14_0
                        try clear hcz14_1
                        try clear hcz17_0
                        try clear hcz17_1
                        try clear hcz20_0
                        try clear hcz20_1
                        try clear hcz34_0
                        try clear hcz34_1
                        try clear hcz37_0
                        try clear hcz37_1
                        try clear hcz44_0
                        try clear hcz44_1
                        try clear hcz47_0
                        try clear hcz47_1
                        try clear hcz51_0
                        try clear hcz51_1
                        try clear hcz54_0
                        try clear hcz54_1
                        try clear hcz76_0
                        try clear hcz76_1
                        try clear hcz79_0
                        try clear hcz79_1
                        try clear hfz11_0
                        try clear hfz11_1
                        try clear hfz14_0
                        try clear hfz14_1
                        try clear hfz17_0
                        try clear hfz17_1
                        try clear hfz20_0
                        try clear hfz20_1
                        try clear hfz34_0
                        try clear hfz34_1
                        try clear hfz37_0
                        try clear hfz37_1
                        try clear hfz44_0
                        try clear hfz44_1
                        try clear hfz47_0
                        try clear hfz47_1
                        try clear hfz51_0
                        try clear hfz51_1
                        try clear hfz54_0
                        try clear hfz54_1
                        try clear hfz76_0
                        try clear hfz76_1
                        try clear hfz79_0
                        try clear hfz79_1
                        try clear hx122_0
                        try clear hx122_1
                        try clear hx133_0
                        try clear hx134_0
                        try clear hx138_0
                        try clear hx142_0
                        try clear hx143_0
                        try clear hx147_0
                        try clear hx148_0
                        try clear p1
                        try clear p12
                        try clear p122
                        try clear p13
                        try clear p133
                        try clear p134
                        try clear p138
                        try clear p142
                        try clear p143
                        try clear p147
                        try clear p148
                        try clear p2
                        try clear p6
                        try clear q1
                        try clear q12
                        try clear q122
                        try clear q13
                        try clear q133
                        try clear q134
                        try clear q138
                        try clear q142
                        try clear q143
                        try clear q147
                        try clear q148
                        try clear q4
                        try clear q40
                        try clear q71
                        obtain ⟨kq, x12_73, rfl, HA, HJ73, HO_7, HO_11, BK123, HB⟩ := hcut
                        cases kq with
                        | zero => exact absurd HA.out (by simp [darningref1_Run.j2])
                        | succ kj73 =>
                          have H := HA.out
                          clear HA
                          simp only [darningref1_Run.j2] at H
                          by_cases c85 : x12_73 = true
                          · subst c85
                            have H1 : (if 0 ≤ (wrap64 ((x7_1.length : Int) - 1)) then (if (wrap64 ((x7_1.length : Int) - 1)) < (x7_1.length : Int) then (if 0 ≤ (rd x7_1 (wrap64 ((x7_1.length : Int) - 1))) then (if (rd x7_1 (wrap64 ((x7_1.length : Int) - 1))) < (l0.length : Int) then (if (wrap64 ((x7_1.length : Int) - 1)) < (y124.length : Int) then (darningref1_Run.l0 kj73 l0 l1 (y124.set ((wrap64 ((x7_1.length : Int) - 1)) : Int).toNat (rd l0 (rd x7_1 (wrap64 ((x7_1.length : Int) - 1))))) l1 (l1.length : Int) (wrap64 (x15_1 + 1))) else (none)) else (none)) else (none)) else (none)) else (none)) = some (r1, r2, r3) := by rw [if_pos rfl] at H; exact H
                            clear H
                            have H := H1
                            clear H1
                            obtain ⟨ji86, hji86⟩ : ∃ j_ : Int, (wrap64 ((x7_1.length : Int) - 1)) = j_ := ⟨_, rfl⟩
                            replace H : (if 0 ≤ (ji86) then (if (ji86) < (x7_1.length : Int) then (if 0 ≤ (rd x7_1 (ji86)) then (if (rd x7_1 (ji86)) < (l0.length : Int) then (if (ji86) < (y124.length : Int) then (darningref1_Run.l0 kj73 l0 l1 (y124.set ((ji86) : Int).toNat (rd l0 (rd x7_1 (ji86)))) l1 (l1.length : Int) (wrap64 (x15_1 + 1))) else (none)) else (none)) else (none)) else (none)) else (none)) = some (r1, r2, r3) := by first | (rw [hji86] at H; exact H) | (simp only [hji86] at H ⊢; exact H)
                            have hji86w : (IntKind.i64.wrap ((x7_1.length : Int) - 1)) = ji86 := (i64_w _).trans hji86
                            by_cases c87 : 0 ≤ (ji86)
                            · rw [if_pos c87] at H
                              have c87b0 : decide (0 ≤ (ji86)) = true := decide_eq_true c87
                              clear c87
                              by_cases c88 : (ji86) < (x7_1.length : Int)
                              · rw [if_pos c88] at H
                                have c88b0 : decide ((ji86) < (x7_1.length : Int)) = true := decide_eq_true c88
                                clear c88
                                by_cases c89 : 0 ≤ (rd x7_1 (ji86))
                                · rw [if_pos c89] at H
                                  have c89b0 : decide (0 ≤ (rd x7_1 (ji86))) = true := decide_eq_true c89
                                  clear c89
                                  by_cases c90 : (rd x7_1 (ji86)) < (l0.length : Int)
                                  · rw [if_pos c90] at H
                                    have c90b0 : decide ((rd x7_1 (ji86)) < (l0.length : Int)) = true := decide_eq_true c90
                                    clear c90
                                    by_cases c91 : (ji86) < (y124.length : Int)
                                    · rw [if_pos c91] at H
                                      have c91b0 : decide ((ji86) < (y124.length : Int)) = true := decide_eq_true c91
                                      clear c91
                                      obtain ⟨y151, hy151⟩ : ∃ y_ : List Int, y_ = (y124.set ((ji86) : Int).toNat (rd l0 (rd x7_1 (ji86)))) := ⟨_, rfl⟩
                                      replace H : (darningref1_Run.l0 kj73 l0 l1 y151 l1 (l1.length : Int) (wrap64 (x15_1 + 1))) = some (r1, r2, r3) := by first | (rw [hy151]; with_reducible exact H) | (have H2_ := (Option.bind_some _ _).symm.trans H; rw [hy151]; with_reducible exact H2_) | (have H2_ := (Option.bind_some _ _).symm.trans H; with_reducible exact H2_) | with_reducible exact H | (rw [hy151]; exact H) | exact H
                                      have Ny151 := Aside0.mk hy151
                                      clear hy151
                                      have H' := Aside0.mk H
                                      clear H
                                      have p149 : 0 ≤ ((ji86) : Int) := of_decide_eq_true (by first | (with_reducible assumption) | assumption)
                                      have q149 : (ji86) < (x7_1.length : Int) := of_decide_eq_true (by first | (with_reducible assumption) | assumption)
                                      obtain ⟨ad149, e149, hx149_0⟩ := Kd.at_int (Kd.R_reads' HO_7.out).2.2 (ji86) p149 q149
                                      cases e149
                                      replace p149 := eq_true p149
                                      replace q149 := eq_true q149
                                      have p150 : 0 ≤ ((rd x7_1 (ji86)) : Int) := of_decide_eq_true (by first | (with_reducible assumption) | assumption)
                                      have q150 : (rd x7_1 (ji86)) < (l0.length : Int) := of_decide_eq_true (by first | (with_reducible assumption) | assumption)
                                      obtain ⟨ad150, e150, hx150_0⟩ := Kd.at_int HR0.out (rd x7_1 (ji86)) p150 q150
                                      cases e150
                                      replace hx150_0 := (HB.out.cell (World.block_lt_of_cell? w _ hx150_0)).trans hx150_0
                                      replace p150 := eq_true p150
                                      replace q150 := eq_true q150
                                      have p92 : 0 ≤ ((ji86) : Int) := of_decide_eq_true (by first | (with_reducible assumption) | assumption)
                                      have q92 : ((ji86) : Int) < ((y124.length : Int) : Int) := of_decide_eq_true (by first | (with_reducible assumption) | assumption)
                                      obtain ⟨go92, co92, eo92, gb92, gl92, cl92, HG92⟩ := Kd.R_form HO_11.out (by omega)
                                      (first | cases eo92 | (injection eo92 with ea_ en_ ec_; (first | subst ea_ | (injection ea_ with ea_; subst ea_)); subst ec_; clear en_))
                                      have GB92 := Aside0.mk gb92
                                      have GG92 := Aside0.mk HG92
                                      clear gb92 gl92 HG92
                                      obtain ⟨hx92_0, hf92_0⟩ := Kd.R_celln 0 HO_11.out ((ji86) : Int) p92 q92
                                      replace p92 := eq_true p92
                                      replace q92 := eq_true q92
                                      have HP93 := Kd.R_putg HO_11.out ((ji86) : Int) (rd l0 (rd x7_1 (ji86)))
                                      go_wp2_with (first | ((with_reducible refine gate_store (t := 3) (p := 121) rfl ?_); refine store_event (t := 3) (p := 121) (v := ?vo_w94) (w1 := (wc.setCell ⟨go92, ((ji86) : Int).toNat, none⟩ (.int .i64 (rd l0 (rd x7_1 (ji86)))))) ?hg ?ho ?hn ?hr ?_; (case ho => rfl); (case hg => rfl); (case hn => rfl); (case hr => first | (go_simp; done) | (go_simp; rfl)); intro w94 hw; have hg : wc.grownBy w94 (some go92) := (by rw [hw]; exact HP93.2); have hp_ : Kd.R (Kd.int .i64) 3 w94 w.heap.size (fun k_ => some k_ ≠ (.slice (some ad149) x7_1.length co77 : Value).ownBlock) (.slice (some ⟨go92, 0, none⟩) y124.length co92) y151 := (by rw [hw, Ny151.out]; exact HP93.1); clear HP93; have n0_ := Aside0.mk (Kd.R_after (v := (.slice (some ⟨go92, 0, none⟩) y124.length co92)) (v1 := (.slice (some ⟨go92, 0, none⟩) y124.length co92)) (ok := (fun _ => True)) (by (with_reducible repeat (first | apply Kd.R_alloc | apply Kd.R_drewN | apply Kd.R_drew)); exact Kd.R_mono HO_7.out (fun _ hk => ⟨trivial, hk⟩)) hg (.inl rfl)); have n1_ := Aside0.mk (hp_); have n2_ := Aside0.mk (blk_grown (g := gb123) (o := .cells #[.int .i64 ((rd_T50 l1 x15_1).f0), .int .i64 ((rd_T50 l1 x15_1).f1)] 50 (0, 0)) (by (with_reducible repeat (first | refine blk_drewN ?_ _ | refine blk_drew ?_ | refine blk_alloc ?_ _)); exact BK123.out) hg (Kd.R_ne HO_11.out BK123.out (by decide))); have n3_ := Aside0.mk ((by rw [hw]; exact below_set (HB.out) GB92.out : Below w.heap.size w w94)); clear HO_7; clear HO_11; clear BK123; clear HB; have HO_7 := n0_; have HO_11 := n1_; have BK123 := n2_; have HB := n3_; clear n0_ n1_ n2_ n3_; clear hg hw hp_))
                                      go_roundg kj73
                                      case measure => have := HK1.out; have := HJ73.out; omega
                                      case rel => exact ⟨(y151), (wrap64 (x15_1 + 1)), (by first | rfl | (simp; done) | (simp [*]; done)), (by first | exact H' | ((try rw [hji24]); (try rw [hji28]); (try rw [hji56]); (try rw [hji60]); (try rw [hji64]); (try rw [hji81]); (try rw [hji86]); exact H')), ⟨by have := HK1.out; have := HJ73.out; omega⟩, ⟨by (with_reducible repeat (first | apply Kd.R_alloc | apply Kd.R_drewN | apply Kd.R_drew)); exact Kd.R_mono HO_11.out (fun _ hk => trivial)⟩, ⟨by repeat (first | (with_reducible first | exact HB.out | apply below_alloc | apply pw_below_drewN | apply below_drew1 | refine below_set ?_ GE123.out) | exact HB.out)⟩⟩
                                    · rw [if_neg c91] at H
                                      exact absurd H (by simp)
                                  · rw [if_neg c90] at H
                                    exact absurd H (by simp)
                                · rw [if_neg c89] at H
                                  exact absurd H (by simp)
                              · rw [if_neg c88] at H
                                exact absurd H (by simp)
                            · rw [if_neg c87] at H
                              exact absurd H (by simp)
                          · replace c85 := Bool.eq_false_iff.mpr c85
                            subst c85
                            have H1 : (some (x7_1, x15_1, false)) = some (r1, r2, r3) := by rw [if_neg (show ¬ (false = true) by decide)] at H; exact H
                            clear H
                            have H := H1
                            clear H1
                            simp only [Option.some.injEq, Prod.mk.injEq] at H
                            obtain ⟨rfl, rfl, rfl⟩ := H
                            go_wp2
                            go_ret3
                            exact ⟨_, by first | rfl | (simp [errW_none, errW_some] <;> rfl) | (simp [*, errW_none, errW_some] <;> rfl), by (with_reducible repeat (first | apply Kd.R_alloc | apply Kd.R_drewN | apply Kd.R_drew)); exact Kd.R_mono HO_7.out (fun _ hk => trivial), by repeat (first | (with_reducible first | exact HB.out | apply below_alloc | apply pw_below_drewN | apply below_drew1 | refine below_set ?_ GE123.out) | exact HB.out)⟩
                    · rw [if_neg c73] at H
                      have c73b0 : (((rd_T50 l1 x15_1).f0) == 4) = false := beq_eq_false_iff_ne.mpr c73
                      have c73b1 : (((rd_T50 l1 x15_1).f0) != 4) = true := bne_iff_ne.mpr c73
                      by_cases c95 : ((rd_T50 l1 x15_1).f0) = 5
                      · rw [if_pos c95] at H
                        have c95b0 : (((rd_T50 l1 x15_1).f0) == 5) = true := beq_iff_eq.mpr c95
                        have c95b1 : (((rd_T50 l1 x15_1).f0) != 5) = false := bne_eq_false_iff_eq.mpr c95
                        clear c95
                        by_cases c96 : (x7_1.length : Int) ≥ 1
                        · rw [if_pos c96] at H
                          have c96b0 : decide (1 ≤ (x7_1.length : Int)) = true := decide_eq_true c96
                          have c96b1 : decide (1 ≤ x7_1.length) = true := decide_eq_true (by omega)
                          clear c96
                          obtain ⟨ji97, hji97⟩ : ∃ j_ : Int, (wrap64 ((x7_1.length : Int) - 1)) = j_ := ⟨_, rfl⟩
                          replace H : (if 0 ≤ (ji97) then (if (ji97) ≤ (y124.length : Int) then (if ((x7_1.length : Int) ≥ 1) then (darningref1_Run.l0 k1 l0 l1 (y124.take ((ji97) : Int).toNat) l1 (l1.length : Int) (wrap64 (x15_1 + 1))) else (some (x7_1, x15_1, false))) else (none)) else (none)) = some (r1, r2, r3) := by first | (rw [hji97] at H; exact H) | (simp only [hji97] at H ⊢; exact H)
                          have hji97w : (IntKind.i64.wrap ((x7_1.length : Int) - 1)) = ji97 := (i64_w _).trans hji97
                          by_cases c98 : 0 ≤ (ji97)
                          · rw [if_pos c98] at H
                            have c98b0 := eq_true c98
                            have c98b1 : decide (0 ≤ (ji97)) = true := decide_eq_true c98
                            clear c98
                            by_cases c99 : (ji97) ≤ (y124.length : Int)
                            · rw [if_pos c99] at H
                              have c99b0 := eq_true c99
                              have c99b1 : decide ((ji97) ≤ (y124.length : Int)) = true := decide_eq_true c99
                              clear c99
                              obtain ⟨y152, hy152⟩ : ∃ y_ : List Int, y_ = (y124.take ((ji97) : Int).toNat) := ⟨_, rfl⟩
                              replace H : (if ((x7_1.length : Int) ≥ 1) then (darningref1_Run.l0 k1 l0 l1 y152 l1 (l1.length : Int) (wrap64 (x15_1 + 1))) else (some (x7_1, x15_1, false))) = some (r1, r2, r3) := by first | (rw [hy152]; with_reducible exact H) | (have H2_ := (Option.bind_some _ _).symm.trans H; rw [hy152]; with_reducible exact H2_) | (have H2_ := (Option.bind_some _ _).symm.trans H; with_reducible exact H2_) | with_reducible exact H | (rw [hy152]; exact H) | exact H
                              have Ny152 := Aside0.mk hy152
                              clear hy152
                              by_cases c100 : ((x7_1.length : Int) ≥ 1)
                              · rw [if_pos c100] at H
                                have c100b0 : decide (1 ≤ (x7_1.length : Int)) = true := decide_eq_true c100
                                have c100b1 : decide (1 ≤ x7_1.length) = true := decide_eq_true (by omega)
                                clear c100
                                have H' := Aside0.mk H
                                clear H
                                have p122 : 0 ≤ (x15_1 : Int) := of_decide_eq_true (by first | (with_reducible assumption) | assumption)
                                have q122 : x15_1 < (l1.length : Int) := of_decide_eq_true (by first | (with_reducible assumption) | assumption)
                                obtain ⟨ad122, e122, hx122_0, hx122_1⟩ := at_T50 HR1.out x15_1 p122 q122
                                cases e122
                                replace hx122_0 := (HB.out.cell (World.block_lt_of_cell? w _ hx122_0)).trans hx122_0
                                replace hx122_1 := (HB.out.cell (World.block_lt_of_cell? w _ hx122_1)).trans hx122_1
                                replace p122 := eq_true p122
                                replace q122 := eq_true q122
                                go_wp2_with (first | ((with_reducible refine gate_dst (N := 9) rfl ?_); (try (refine gate_guard (by rfl) ?_; dsimp only)); refine box_event ?hg (N := 9) ?hd (cs := #[.int .i64 0, .int .i64 0]) (t := 50) ?hr ?_; (case hd => rfl); (case hg => rfl); (case hr => first | (go_simp; done) | (go_simp; rfl)); intro gb123 hg w101 hbox hb; have n0_ := Aside0.mk (Kd.R_below (by (with_reducible repeat (first | apply Kd.R_alloc | apply Kd.R_drewN | apply Kd.R_drew)); exact HO_7.out) hb); have n1_ := Aside0.mk (below_step (by repeat (first | (with_reducible first | exact HB.out | apply below_alloc | apply pw_below_drewN | apply below_drew1) | exact HB.out)) hb); have n2_ := Aside0.mk (hbox); have n3_ := Aside0.mk ((by rw [hg]; exact (below_size (by repeat (first | (with_reducible first | exact HB.out | apply below_alloc | apply pw_below_drewN | apply below_drew1) | exact HB.out))) : w.heap.size ≤ gb123)); have n4_ := Aside0.mk ((by rw [hg]; exact (below_size (by repeat (first | (with_reducible first | exact HB.out | apply below_alloc | apply pw_below_drewN | apply below_drew1) | exact HB.out))) : w.heap.size ≤ gb123)); clear HO_7; clear HB; have HO_7 := n0_; have HB := n1_; have BK123 := n2_; have GW123 := n3_; have GE123 := n4_; clear n0_ n1_ n2_ n3_ n4_; clear hb hbox hg; have hcz102_0 : w101.cell? ⟨gb123, 0, none⟩ = some (.int .i64 0) := (blk_cell BK123.out 0).trans rfl; have hcz102_1 : w101.cell? ⟨gb123, 1, none⟩ = some (.int .i64 0) := (blk_cell BK123.out 1).trans rfl; have hfz102_0 := blk_frozen BK123.out 0; have hfz102_1 := blk_frozen BK123.out 1; obtain ⟨Ao103, co103, eo103⟩ := Kd.R_slice HO_7.out; subst eo103) | ((with_reducible refine gate_builtin (b := .append) (xs := #[.const (.slice none 0 0), .tmp 22]) rfl ?_); (try (refine gate_guard (by rfl) ?_; dsimp only)); at_builtin; refine Kd.R_append_rows (Kd.int .i64) (w0 := w) w.heap.size rfl (.const (.slice none 0 0)) (.tmp 22) 32 3 (.int .i64 0) 8 rfl Try.underlying32 info3 rfl (by decide) (by omega) (.slice none 0 0) ([] : List Int) x7_1 _ _ _ (fun k_ => some k_ ≠ (.slice Ao103 x7_1.length co103 : Value).ownBlock) (fun _ => False) rfl rfl ?aO ?aR (fun _ _ h => h) (fun _ h => h.elim) ?aF ?aB ?aS ?aL ?_; (case aR => refine (Kd.R_reads' (e := 3) (base := w.heap.size) (ok := fun k_ => True) (n := x7_1.length) (c := co103) ?_).2.2; exact (by (with_reducible repeat (first | apply Kd.R_alloc | apply Kd.R_drewN | apply Kd.R_drew)); exact (Kd.R_mono (Kd.R_far (p := ⟨gb123, 1, none⟩) (Kd.R_far (p := ⟨gb123, 0, none⟩) (Kd.R_types HO_7.out BK123.out (by decide)) (fun _ hk => hk.2) (.int .i64 ((rd_T50 l1 x15_1).f0))) (fun _ hk => hk.2) (.int .i64 ((rd_T50 l1 x15_1).f1))) (fun _ h_ => h_.1)))); (case aB => exact (by repeat (first | (with_reducible first | exact HB.out | apply below_alloc | apply pw_below_drewN | apply below_drew1 | refine below_set ?_ GE123.out) | exact HB.out))); (case aF => exact (fun k_ hk => Kd.fresh' (Kd.R_lt (by (with_reducible repeat (first | apply Kd.R_alloc | apply Kd.R_drewN | apply Kd.R_drew)); exact (Kd.R_mono (Kd.R_far (p := ⟨gb123, 1, none⟩) (Kd.R_far (p := ⟨gb123, 0, none⟩) (Kd.R_types HO_7.out BK123.out (by decide)) (fun _ hk => hk.2) (.int .i64 ((rd_T50 l1 x15_1).f0))) (fun _ hk => hk.2) (.int .i64 ((rd_T50 l1 x15_1).f1))) (fun _ h_ => h_.1)))) k_ hk)); (case aO => exact ((Kd.R_nil _ _ _ _ (fun k_ => some k_ ≠ (.slice Ao103 x7_1.length co103 : Value).ownBlock)))); (case aS => exact (below_size (by repeat (first | (with_reducible first | exact HB.out | apply below_alloc | apply pw_below_drewN | apply below_drew1 | refine below_set ?_ GE123.out) | exact HB.out)))); (case aL => have := LMc6.out; omega); intro v125 w104 ho hb hg hat; rw [← Ny124.out] at ho; have n0_ := Aside0.mk (Kd.R_after (Kd.R_apart_nil (by (with_reducible repeat (first | apply Kd.R_alloc | apply Kd.R_drewN | apply Kd.R_drew)); exact (Kd.R_mono (Kd.R_far (p := ⟨gb123, 1, none⟩) (Kd.R_far (p := ⟨gb123, 0, none⟩) (Kd.R_types HO_7.out BK123.out (by decide)) (fun _ hk => hk.2) (.int .i64 ((rd_T50 l1 x15_1).f0))) (fun _ hk => hk.2) (.int .i64 ((rd_T50 l1 x15_1).f1))) (fun _ h_ => h_.1)))) hg hat); have n1_ := Aside0.mk (blk_grown (g := gb123) (o := .cells #[.int .i64 ((rd_T50 l1 x15_1).f0), .int .i64 ((rd_T50 l1 x15_1).f1)] 50 (0, 0)) (by (with_reducible repeat (first | refine blk_drewN ?_ _ | refine blk_drew ?_ | refine blk_alloc ?_ _)); refine blk_put (cs := #[.int .i64 ((rd_T50 l1 x15_1).f0), .int .i64 0]) ?_ 1 _ rfl; (with_reducible repeat (first | refine blk_drewN ?_ _ | refine blk_drew ?_ | refine blk_alloc ?_ _)); refine blk_put (cs := #[.int .i64 0, .int .i64 0]) ?_ 0 _ rfl; (with_reducible repeat (first | refine blk_drewN ?_ _ | refine blk_drew ?_ | refine blk_alloc ?_ _)); exact BK123.out) hg (by simp [Value.ownBlock])); have n2_ := Aside0.mk (hb); have n3_ := Aside0.mk (ho); clear HO_7; clear BK123; clear HB; have HO_7 := n0_; have BK123 := n1_; have HB := n2_; have HO126 := n3_; clear n0_ n1_ n2_ n3_; clear ho hb hg hat; have hcz105_0 : w104.cell? ⟨gb123, 0, none⟩ = some (.int .i64 ((rd_T50 l1 x15_1).f0)) := (blk_cell BK123.out 0).trans rfl; have hcz105_1 : w104.cell? ⟨gb123, 1, none⟩ = some (.int .i64 ((rd_T50 l1 x15_1).f1)) := (blk_cell BK123.out 1).trans rfl; have hfz105_0 := blk_frozen BK123.out 0; have hfz105_1 := blk_frozen BK123.out 1; obtain ⟨Ao106, co106, eo106⟩ := Kd.R_slice HO126.out; subst eo106; have q107 : ((ji97) : Int) ≤ ((y124.length : Int) : Int) := of_decide_eq_true (by first | (with_reducible assumption) | assumption); obtain ⟨i0107, hi0107, _, hsz107, _⟩ := info_parts info3; have hcut107 := cut_to (P := Try.prog) 32 3 .i64 Try.underlying32 hi0107 Ao106 y124.length co106 (ji97) (of_decide_eq_true (by first | (with_reducible assumption) | assumption)) q107 (Kd.R_reads' HO126.out).2.1; have hr107 := Kd.R_take (m := ((ji97) : Int).toNat) HO126.out (by omega); have hy107 : y152.length = ((ji97) : Int).toNat := (by rw [Ny152.out, List.length_take]; omega); rw [← Ny152.out] at hr107; rw [← hy107] at hr107 hcut107; clear hy107 hi0107 hsz107 HO126; have HO154 := Aside0.mk hr107; clear hr107; replace q107 := eq_true q107))
                                go_roundg k1
                                case measure => have := HK1.out; omega
                                case rel => exact ⟨(y152), (wrap64 (x15_1 + 1)), (by first | rfl | (simp; done) | (simp [*]; done)), (by first | exact H' | ((try rw [hji24]); (try rw [hji28]); (try rw [hji56]); (try rw [hji60]); (try rw [hji64]); (try rw [hji81]); (try rw [hji86]); (try rw [hji97]); exact H')), ⟨by have := HK1.out; omega⟩, ⟨by (with_reducible repeat (first | apply Kd.R_alloc | apply Kd.R_drewN | apply Kd.R_drew)); exact Kd.R_mono HO154.out (fun _ hk => trivial)⟩, ⟨by repeat (first | (with_reducible first | exact HB.out | apply below_alloc | apply pw_below_drewN | apply below_drew1 | refine below_set ?_ GE123.out) | exact HB.out)⟩⟩
                              · rw [if_neg c100] at H
                                have c100b0 : decide (1 ≤ (x7_1.length : Int)) = false := decide_eq_false c100
                                have c100b1 : decide (1 ≤ x7_1.length) = false := decide_eq_false (by omega)
                                clear c100
                                exact absurd (c96b0.symm.trans c100b0) (by decide)
                            · rw [if_neg c99] at H
                              exact absurd H (by simp)
                          · rw [if_neg c98] at H
                            exact absurd H (by simp)
                        · rw [if_neg c96] at H
                          have c96b0 : decide (1 ≤ (x7_1.length : Int)) = false := decide_eq_false c96
                          have c96b1 : decide (1 ≤ x7_1.length) = false := decide_eq_false (by omega)
                          clear c96
                          by_cases c108 : ((x7_1.length : Int) ≥ 1)
                          · rw [if_pos c108] at H
                            have c108b0 : decide (1 ≤ (x7_1.length : Int)) = true := decide_eq_true c108
                            have c108b1 : decide (1 ≤ x7_1.length) = true := decide_eq_true (by omega)
                            clear c108
                            exact absurd (c96b0.symm.trans c108b0) (by decide)
                          · rw [if_neg c108] at H
                            have c108b0 : decide (1 ≤ (x7_1.length : Int)) = false := decide_eq_false c108
                            have c108b1 : decide (1 ≤ x7_1.length) = false := decide_eq_false (by omega)
                            clear c108
                            simp only [Option.some.injEq, Prod.mk.injEq] at H
                            obtain ⟨rfl, rfl, rfl⟩ := H
                            have p122 : 0 ≤ (x15_1 : Int) := of_decide_eq_true (by first | (with_reducible assumption) | assumption)
                            have q122 : x15_1 < (l1.length : Int) := of_decide_eq_true (by first | (with_reducible assumption) | assumption)
                            obtain ⟨ad122, e122, hx122_0, hx122_1⟩ := at_T50 HR1.out x15_1 p122 q122
                            cases e122
                            replace hx122_0 := (HB.out.cell (World.block_lt_of_cell? w _ hx122_0)).trans hx122_0
                            replace hx122_1 := (HB.out.cell (World.block_lt_of_cell? w _ hx122_1)).trans hx122_1
                            replace p122 := eq_true p122
                            replace q122 := eq_true q122
                            go_wp2_with (first | ((with_reducible refine gate_dst (N := 9) rfl ?_); (try (refine gate_guard (by rfl) ?_; dsimp only)); refine box_event ?hg (N := 9) ?hd (cs := #[.int .i64 0, .int .i64 0]) (t := 50) ?hr ?_; (case hd => rfl); (case hg => rfl); (case hr => first | (go_simp; done) | (go_simp; rfl)); intro gb123 hg w109 hbox hb; have n0_ := Aside0.mk (Kd.R_below (by (with_reducible repeat (first | apply Kd.R_alloc | apply Kd.R_drewN | apply Kd.R_drew)); exact HO_7.out) hb); have n1_ := Aside0.mk (below_step (by repeat (first | (with_reducible first | exact HB.out | apply below_alloc | apply pw_below_drewN | apply below_drew1) | exact HB.out)) hb); have n2_ := Aside0.mk (hbox); have n3_ := Aside0.mk ((by rw [hg]; exact (below_size (by repeat (first | (with_reducible first | exact HB.out | apply below_alloc | apply pw_below_drewN | apply below_drew1) | exact HB.out))) : w.heap.size ≤ gb123)); have n4_ := Aside0.mk ((by rw [hg]; exact (below_size (by repeat (first | (with_reducible first | exact HB.out | apply below_alloc | apply pw_below_drewN | apply below_drew1) | exact HB.out))) : w.heap.size ≤ gb123)); clear HO_7; clear HB; have HO_7 := n0_; have HB := n1_; have BK123 := n2_; have GW123 := n3_; have GE123 := n4_; clear n0_ n1_ n2_ n3_ n4_; clear hb hbox hg; have hcz110_0 : w109.cell? ⟨gb123, 0, none⟩ = some (.int .i64 0) := (blk_cell BK123.out 0).trans rfl; have hcz110_1 : w109.cell? ⟨gb123, 1, none⟩ = some (.int .i64 0) := (blk_cell BK123.out 1).trans rfl; have hfz110_0 := blk_frozen BK123.out 0; have hfz110_1 := blk_frozen BK123.out 1; obtain ⟨Ao111, co111, eo111⟩ := Kd.R_slice HO_7.out; subst eo111) | ((with_reducible refine gate_builtin (b := .append) (xs := #[.const (.slice none 0 0), .tmp 22]) rfl ?_); (try (refine gate_guard (by rfl) ?_; dsimp only)); at_builtin; refine Kd.R_append_rows (Kd.int .i64) (w0 := w) w.heap.size rfl (.const (.slice none 0 0)) (.tmp 22) 32 3 (.int .i64 0) 8 rfl Try.underlying32 info3 rfl (by decide) (by omega) (.slice none 0 0) ([] : List Int) x7_1 _ _ _ (fun k_ => some k_ ≠ (.slice Ao111 x7_1.length co111 : Value).ownBlock) (fun _ => False) rfl rfl ?aO ?aR (fun _ _ h => h) (fun _ h => h.elim) ?aF ?aB ?aS ?aL ?_; (case aR => refine (Kd.R_reads' (e := 3) (base := w.heap.size) (ok := fun k_ => True) (n := x7_1.length) (c := co111) ?_).2.2; exact (by (with_reducible repeat (first | apply Kd.R_alloc | apply Kd.R_drewN | apply Kd.R_drew)); exact (Kd.R_mono (Kd.R_far (p := ⟨gb123, 1, none⟩) (Kd.R_far (p := ⟨gb123, 0, none⟩) (Kd.R_types HO_7.out BK123.out (by decide)) (fun _ hk => hk.2) (.int .i64 ((rd_T50 l1 x15_1).f0))) (fun _ hk => hk.2) (.int .i64 ((rd_T50 l1 x15_1).f1))) (fun _ h_ => h_.1)))); (case aB => exact (by repeat (first | (with_reducible first | exact HB.out | apply below_alloc | apply pw_below_drewN | apply below_drew1 | refine below_set ?_ GE123.out) | exact HB.out))); (case aF => exact (fun k_ hk => Kd.fresh' (Kd.R_lt (by (with_reducible repeat (first | apply Kd.R_alloc | apply Kd.R_drewN | apply Kd.R_drew)); exact (Kd.R_mono (Kd.R_far (p := ⟨gb123, 1, none⟩) (Kd.R_far (p := ⟨gb123, 0, none⟩) (Kd.R_types HO_7.out BK123.out (by decide)) (fun _ hk => hk.2) (.int .i64 ((rd_T50 l1 x15_1).f0))) (fun _ hk => hk.2) (.int .i64 ((rd_T50 l1 x15_1).f1))) (fun _ h_ => h_.1)))) k_ hk)); (case aO => exact ((Kd.R_nil _ _ _ _ (fun k_ => some k_ ≠ (.slice Ao111 x7_1.length co111 : Value).ownBlock)))); (case aS => exact (below_size (by repeat (first | (with_reducible first | exact HB.out | apply below_alloc | apply pw_below_drewN | apply below_drew1 | refine below_set ?_ GE123.out) | exact HB.out)))); (case aL => have := LMc6.out; omega); intro v125 w112 ho hb hg hat; rw [← Ny124.out] at ho; have n0_ := Aside0.mk (Kd.R_after (Kd.R_apart_nil (by (with_reducible repeat (first | apply Kd.R_alloc | apply Kd.R_drewN | apply Kd.R_drew)); exact (Kd.R_mono (Kd.R_far (p := ⟨gb123, 1, none⟩) (Kd.R_far (p := ⟨gb123, 0, none⟩) (Kd.R_types HO_7.out BK123.out (by decide)) (fun _ hk => hk.2) (.int .i64 ((rd_T50 l1 x15_1).f0))) (fun _ hk => hk.2) (.int .i64 ((rd_T50 l1 x15_1).f1))) (fun _ h_ => h_.1)))) hg hat); have n1_ := Aside0.mk (blk_grown (g := gb123) (o := .cells #[.int .i64 ((rd_T50 l1 x15_1).f0), .int .i64 ((rd_T50 l1 x15_1).f1)] 50 (0, 0)) (by (with_reducible repeat (first | refine blk_drewN ?_ _ | refine blk_drew ?_ | refine blk_alloc ?_ _)); refine blk_put (cs := #[.int .i64 ((rd_T50 l1 x15_1).f0), .int .i64 0]) ?_ 1 _ rfl; (with_reducible repeat (first | refine blk_drewN ?_ _ | refine blk_drew ?_ | refine blk_alloc ?_ _)); refine blk_put (cs := #[.int .i64 0, .int .i64 0]) ?_ 0 _ rfl; (with_reducible repeat (first | refine blk_drewN ?_ _ | refine blk_drew ?_ | refine blk_alloc ?_ _)); exact BK123.out) hg (by simp [Value.ownBlock])); have n2_ := Aside0.mk (hb); have n3_ := Aside0.mk (ho); clear HO_7; clear BK123; clear HB; have HO_7 := n0_; have BK123 := n1_; have HB := n2_; have HO126 := n3_; clear n0_ n1_ n2_ n3_; clear ho hb hg hat; have hcz113_0 : w112.cell? ⟨gb123, 0, none⟩ = some (.int .i64 ((rd_T50 l1 x15_1).f0)) := (blk_cell BK123.out 0).trans rfl; have hcz113_1 : w112.cell? ⟨gb123, 1, none⟩ = some (.int .i64 ((rd_T50 l1 x15_1).f1)) := (blk_cell BK123.out 1).trans rfl; have hfz113_0 := blk_frozen BK123.out 0; have hfz113_1 := blk_frozen BK123.out 1))
                            go_ret3
                            exact ⟨_, by first | rfl | (simp [errW_none, errW_some] <;> rfl) | (simp [*, errW_none, errW_some] <;> rfl), by (with_reducible repeat (first | apply Kd.R_alloc | apply Kd.R_drewN | apply Kd.R_drew)); exact Kd.R_mono HO_7.out (fun _ hk => trivial), by repeat (first | (with_reducible first | exact HB.out | apply below_alloc | apply pw_below_drewN | apply below_drew1 | refine below_set ?_ GE123.out) | exact HB.out)⟩
                      · rw [if_neg c95] at H
                        have c95b0 : (((rd_T50 l1 x15_1).f0) == 5) = false := beq_eq_false_iff_ne.mpr c95
                        have c95b1 : (((rd_T50 l1 x15_1).f0) != 5) = true := bne_iff_ne.mpr c95
                        simp only [Option.some.injEq, Prod.mk.injEq] at H
                        obtain ⟨rfl, rfl, rfl⟩ := H
                        have p122 : 0 ≤ (x15_1 : Int) := of_decide_eq_true (by first | (with_reducible assumption) | assumption)
                        have q122 : x15_1 < (l1.length : Int) := of_decide_eq_true (by first | (with_reducible assumption) | assumption)
                        obtain ⟨ad122, e122, hx122_0, hx122_1⟩ := at_T50 HR1.out x15_1 p122 q122
                        cases e122
                        replace hx122_0 := (HB.out.cell (World.block_lt_of_cell? w _ hx122_0)).trans hx122_0
                        replace hx122_1 := (HB.out.cell (World.block_lt_of_cell? w _ hx122_1)).trans hx122_1
                        replace p122 := eq_true p122
                        replace q122 := eq_true q122
                        go_wp2_with (first | ((with_reducible refine gate_dst (N := 9) rfl ?_); (try (refine gate_guard (by rfl) ?_; dsimp only)); refine box_event ?hg (N := 9) ?hd (cs := #[.int .i64 0, .int .i64 0]) (t := 50) ?hr ?_; (case hd => rfl); (case hg => rfl); (case hr => first | (go_simp; done) | (go_simp; rfl)); intro gb123 hg w114 hbox hb; have n0_ := Aside0.mk (Kd.R_below (by (with_reducible repeat (first | apply Kd.R_alloc | apply Kd.R_drewN | apply Kd.R_drew)); exact HO_7.out) hb); have n1_ := Aside0.mk (below_step (by repeat (first | (with_reducible first | exact HB.out | apply below_alloc | apply pw_below_drewN | apply below_drew1) | exact HB.out)) hb); have n2_ := Aside0.mk (hbox); have n3_ := Aside0.mk ((by rw [hg]; exact (below_size (by repeat (first | (with_reducible first | exact HB.out | apply below_alloc | apply pw_below_drewN | apply below_drew1) | exact HB.out))) : w.heap.size ≤ gb123)); have n4_ := Aside0.mk ((by rw [hg]; exact (below_size (by repeat (first | (with_reducible first | exact HB.out | apply below_alloc | apply pw_below_drewN | apply below_drew1) | exact HB.out))) : w.heap.size ≤ gb123)); clear HO_7; clear HB; have HO_7 := n0_; have HB := n1_; have BK123 := n2_; have GW123 := n3_; have GE123 := n4_; clear n0_ n1_ n2_ n3_ n4_; clear hb hbox hg; have hcz115_0 : w114.cell? ⟨gb123, 0, none⟩ = some (.int .i64 0) := (blk_cell BK123.out 0).trans rfl; have hcz115_1 : w114.cell? ⟨gb123, 1, none⟩ = some (.int .i64 0) := (blk_cell BK123.out 1).trans rfl; have hfz115_0 := blk_frozen BK123.out 0; have hfz115_1 := blk_frozen BK123.out 1; obtain ⟨Ao116, co116, eo116⟩ := Kd.R_slice HO_7.out; subst eo116) | ((with_reducible refine gate_builtin (b := .append) (xs := #[.const (.slice none 0 0), .tmp 22]) rfl ?_); (try (refine gate_guard (by rfl) ?_; dsimp only)); at_builtin; refine Kd.R_append_rows (Kd.int .i64) (w0 := w) w.heap.size rfl (.const (.slice none 0 0)) (.tmp 22) 32 3 (.int .i64 0) 8 rfl Try.underlying32 info3 rfl (by decide) (by omega) (.slice none 0 0) ([] : List Int) x7_1 _ _ _ (fun k_ => some k_ ≠ (.slice Ao116 x7_1.length co116 : Value).ownBlock) (fun _ => False) rfl rfl ?aO ?aR (fun _ _ h => h) (fun _ h => h.elim) ?aF ?aB ?aS ?aL ?_; (case aR => refine (Kd.R_reads' (e := 3) (base := w.heap.size) (ok := fun k_ => True) (n := x7_1.length) (c := co116) ?_).2.2; exact (by (with_reducible repeat (first | apply Kd.R_alloc | apply Kd.R_drewN | apply Kd.R_drew)); exact (Kd.R_mono (Kd.R_far (p := ⟨gb123, 1, none⟩) (Kd.R_far (p := ⟨gb123, 0, none⟩) (Kd.R_types HO_7.out BK123.out (by decide)) (fun _ hk => hk.2) (.int .i64 ((rd_T50 l1 x15_1).f0))) (fun _ hk => hk.2) (.int .i64 ((rd_T50 l1 x15_1).f1))) (fun _ h_ => h_.1)))); (case aB => exact (by repeat (first | (with_reducible first | exact HB.out | apply below_alloc | apply pw_below_drewN | apply below_drew1 | refine below_set ?_ GE123.out) | exact HB.out))); (case aF => exact (fun k_ hk => Kd.fresh' (Kd.R_lt (by (with_reducible repeat (first | apply Kd.R_alloc | apply Kd.R_drewN | apply Kd.R_drew)); exact (Kd.R_mono (Kd.R_far (p := ⟨gb123, 1, none⟩) (Kd.R_far (p := ⟨gb123, 0, none⟩) (Kd.R_types HO_7.out BK123.out (by decide)) (fun _ hk => hk.2) (.int .i64 ((rd_T50 l1 x15_1).f0))) (fun _ hk => hk.2) (.int .i64 ((rd_T50 l1 x15_1).f1))) (fun _ h_ => h_.1)))) k_ hk)); (case aO => exact ((Kd.R_nil _ _ _ _ (fun k_ => some k_ ≠ (.slice Ao116 x7_1.length co116 : Value).ownBlock)))); (case aS => exact (below_size (by repeat (first | (with_reducible first | exact HB.out | apply below_alloc | apply pw_below_drewN | apply below_drew1 | refine below_set ?_ GE123.out) | exact HB.out)))); (case aL => have := LMc6.out; omega); intro v125 w117 ho hb hg hat; rw [← Ny124.out] at ho; have n0_ := Aside0.mk (Kd.R_after (Kd.R_apart_nil (by (with_reducible repeat (first | apply Kd.R_alloc | apply Kd.R_drewN | apply Kd.R_drew)); exact (Kd.R_mono (Kd.R_far (p := ⟨gb123, 1, none⟩) (Kd.R_far (p := ⟨gb123, 0, none⟩) (Kd.R_types HO_7.out BK123.out (by decide)) (fun _ hk => hk.2) (.int .i64 ((rd_T50 l1 x15_1).f0))) (fun _ hk => hk.2) (.int .i64 ((rd_T50 l1 x15_1).f1))) (fun _ h_ => h_.1)))) hg hat); have n1_ := Aside0.mk (blk_grown (g := gb123) (o := .cells #[.int .i64 ((rd_T50 l1 x15_1).f0), .int .i64 ((rd_T50 l1 x15_1).f1)] 50 (0, 0)) (by (with_reducible repeat (first | refine blk_drewN ?_ _ | refine blk_drew ?_ | refine blk_alloc ?_ _)); refine blk_put (cs := #[.int .i64 ((rd_T50 l1 x15_1).f0), .int .i64 0]) ?_ 1 _ rfl; (with_reducible repeat (first | refine blk_drewN ?_ _ | refine blk_drew ?_ | refine blk_alloc ?_ _)); refine blk_put (cs := #[.int .i64 0, .int .i64 0]) ?_ 0 _ rfl; (with_reducible repeat (first | refine blk_drewN ?_ _ | refine blk_drew ?_ | refine blk_alloc ?_ _)); exact BK123.out) hg (by simp [Value.ownBlock])); have n2_ := Aside0.mk (hb); have n3_ := Aside0.mk (ho); clear HO_7; clear BK123; clear HB; have HO_7 := n0_; have BK123 := n1_; have HB := n2_; have HO126 := n3_; clear n0_ n1_ n2_ n3_; clear ho hb hg hat; have hcz118_0 : w117.cell? ⟨gb123, 0, none⟩ = some (.int .i64 ((rd_T50 l1 x15_1).f0)) := (blk_cell BK123.out 0).trans rfl; have hcz118_1 : w117.cell? ⟨gb123, 1, none⟩ = some (.int .i64 ((rd_T50 l1 x15_1).f1)) := (blk_cell BK123.out 1).trans rfl; have hfz118_0 := blk_frozen BK123.out 0; have hfz118_1 := blk_frozen BK123.out 1))
                        go_ret3
                        exact ⟨_, by first | rfl | (simp [errW_none, errW_some] <;> rfl) | (simp [*, errW_none, errW_some] <;> rfl), by (with_reducible repeat (first | apply Kd.R_alloc | apply Kd.R_drewN | apply Kd.R_drew)); exact Kd.R_mono HO_7.out (fun _ hk => trivial), by repeat (first | (with_reducible first | exact HB.out | apply below_alloc | apply pw_below_drewN | apply below_drew1 | refine below_set ?_ GE123.out) | exact HB.out)⟩
            · rw [if_neg c6] at H
              exact absurd H (by simp)
          · rw [if_neg c5] at H
            exact absurd H (by simp)
        · rw [if_neg c4] at H
          exact absurd H (by simp)
      · rw [if_neg c3] at H
        have c3b0 : decide (x15_1 < (l1.length : Int)) = false := decide_eq_false c3
        clear c3
        simp only [Option.some.injEq, Prod.mk.injEq] at H
        obtain ⟨rfl, rfl, rfl⟩ := H
        go_wp2
        go_ret3
        exact ⟨_, by first | rfl | (simp [errW_none, errW_some] <;> rfl) | (simp [*, errW_none, errW_some] <;> rfl), by (with_reducible repeat (first | apply Kd.R_alloc | apply Kd.R_drewN | apply Kd.R_drew)); exact HO_7.out, by repeat (first | (with_reducible first | exact HB.out | apply below_alloc | apply pw_below_drewN | apply below_drew1) | exact HB.out)⟩

end Go.Proofs.Ytjmlbkbjmeeplab.XGuardForms
