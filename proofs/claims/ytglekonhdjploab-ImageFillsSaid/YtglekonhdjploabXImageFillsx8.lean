-- Laid by this session's own printer (wip/xprint.py): each Go function that the law reaches as a plain Lean function, and that the call comes to it.
import Derived.Test.YtglekonhdjploabXImageFillsx0
import Derived.Test.YtglekonhdjploabXImageFillsx7
namespace Go.Proofs.Ytglekonhdjploab.XImageFills
open Go.RowKit Go.Proofs.YtglekonhdjploabW.PrintWords Go.Proofs.YtglekonhdjploabW.PrintLast Go.Proofs.YtglekonhdjploabW.PrintMore
attribute [local go_sem] max2_int min2_int max_two min_two max_three min_three max_four min_four   -- for this text's walks alone
set_option linter.unusedVariables false
set_option linter.unusedSimpArgs false

/-! ### span_Edits: function 33 -/
def span_Edits.l0 : Nat → List Int → Int → List (S57) → List Int → Int → Int → Option ((List (S57)) × Bool)
 | 0, _, _, _, _, _, _ => none
 | k + 1, x0, x1, x8, x19, x20, x21 => if x21 < x20 then (if 0 ≤ x21 then (if x21 < (x19.length : Int) then (if (x8.length : Int) = 0 then (if 0 ≤ (wrap64 (Int.tdiv (wrap64 (x1 + x21)) 8)) then (if (wrap64 (Int.tdiv (wrap64 (x1 + x21)) 8)) < (x0.length : Int) then (if x8.length < 8796093022208 then ((some (x8 ++ [(⟨wrap64 (Int.tdiv (wrap64 (x1 + x21)) 8), rd x0 (wrap64 (Int.tdiv (wrap64 (x1 + x21)) 8))⟩ : S57)] : List (S57))).bind fun y201 => (if 0 ≤ (wrap64 ((y201.length : Int) - 1)) then (if (wrap64 ((y201.length : Int) - 1)) < (y201.length : Int) then (if 0 ≤ (wrap64 ((Int.tmod (wrap64 (x1 + x21)) 8) * 8)) then (span_Edits.l0 k x0 x1 (y201.set ((wrap64 ((y201.length : Int) - 1)) : Int).toNat (⟨(rd_T57 y201 (wrap64 ((y201.length : Int) - 1))).f0, Go.bits .or .u64 (Go.bits .andNot .u64 ((rd_T57 y201 (wrap64 ((y201.length : Int) - 1))).f1) (shl .u64 255 (wrap64 ((Int.tmod (wrap64 (x1 + x21)) 8) * 8)))) (shl .u64 (IntKind.u64.wrap (rd x19 x21)) (wrap64 ((Int.tmod (wrap64 (x1 + x21)) 8) * 8)))⟩ : S57)) x19 x20 (wrap64 (x21 + 1))) else (none)) else (none)) else (none))) else (none)) else (none)) else (none)) else (if 0 ≤ (wrap64 ((x8.length : Int) - 1)) then (if (wrap64 ((x8.length : Int) - 1)) < (x8.length : Int) then (if ((rd_T57 x8 (wrap64 ((x8.length : Int) - 1))).f0) = (wrap64 (Int.tdiv (wrap64 (x1 + x21)) 8)) then (if 0 ≤ (wrap64 ((Int.tmod (wrap64 (x1 + x21)) 8) * 8)) then (span_Edits.l0 k x0 x1 (x8.set ((wrap64 ((x8.length : Int) - 1)) : Int).toNat (⟨(rd_T57 x8 (wrap64 ((x8.length : Int) - 1))).f0, Go.bits .or .u64 (Go.bits .andNot .u64 ((rd_T57 x8 (wrap64 ((x8.length : Int) - 1))).f1) (shl .u64 255 (wrap64 ((Int.tmod (wrap64 (x1 + x21)) 8) * 8)))) (shl .u64 (IntKind.u64.wrap (rd x19 x21)) (wrap64 ((Int.tmod (wrap64 (x1 + x21)) 8) * 8)))⟩ : S57)) x19 x20 (wrap64 (x21 + 1))) else (none)) else (if 0 ≤ (wrap64 (Int.tdiv (wrap64 (x1 + x21)) 8)) then (if (wrap64 (Int.tdiv (wrap64 (x1 + x21)) 8)) < (x0.length : Int) then (if x8.length < 8796093022208 then ((some (x8 ++ [(⟨wrap64 (Int.tdiv (wrap64 (x1 + x21)) 8), rd x0 (wrap64 (Int.tdiv (wrap64 (x1 + x21)) 8))⟩ : S57)] : List (S57))).bind fun y210 => (if 0 ≤ (wrap64 ((y210.length : Int) - 1)) then (if (wrap64 ((y210.length : Int) - 1)) < (y210.length : Int) then (if 0 ≤ (wrap64 ((Int.tmod (wrap64 (x1 + x21)) 8) * 8)) then (span_Edits.l0 k x0 x1 (y210.set ((wrap64 ((y210.length : Int) - 1)) : Int).toNat (⟨(rd_T57 y210 (wrap64 ((y210.length : Int) - 1))).f0, Go.bits .or .u64 (Go.bits .andNot .u64 ((rd_T57 y210 (wrap64 ((y210.length : Int) - 1))).f1) (shl .u64 255 (wrap64 ((Int.tmod (wrap64 (x1 + x21)) 8) * 8)))) (shl .u64 (IntKind.u64.wrap (rd x19 x21)) (wrap64 ((Int.tmod (wrap64 (x1 + x21)) 8) * 8)))⟩ : S57)) x19 x20 (wrap64 (x21 + 1))) else (none)) else (none)) else (none))) else (none)) else (none)) else (none))) else (none)) else (none))) else (none)) else (none)) else (some (x8, true))
def span_Edits.f (k : Nat) (l0 : List Int) (a1 : Int) (l2 : List Int) : Option ((List (S57)) × Bool) := (span_within.f l0 a1 (l2.length : Int)).bind fun t198 => (if t198 = true then (span_Edits.l0 k l0 a1 ([] : List (S57)) l2 (l2.length : Int) 0) else (some (([] : List (S57)), false)))
theorem span_Edits.mono_l : ∀ k, (∀ y0 y1 y2 y3 y4 y5, LeO (span_Edits.l0 k y0 y1 y2 y3 y4 y5) (span_Edits.l0 (k + 1) y0 y1 y2 y3 y4 y5))
 | 0 => fun _ _ _ _ _ _ r h => by simp [span_Edits.l0] at h
 | k + 1 => by
  have ih0 := span_Edits.mono_l k
  ·
   intro y0 y1 y2 y3 y4 y5
   unfold span_Edits.l0
   repeat' first
   | (with_reducible exact ih0 _ _ _ _ _ _)
   | (with_reducible exact LeO.refl _)
   | (with_reducible exact LeO.none _)
   | (with_reducible refine LeO.ite ?_ ?_)
   | (with_reducible refine LeO.bind ?_ (fun _ => ?_))
   | exact ih0 _ _ _ _ _ _
   | exact LeO.none _
   | refine LeO.ite ?_ ?_
   | refine LeO.bind ?_ (fun _ => ?_)
theorem span_Edits.mono : ∀ a0 a1 a2 k, LeO (span_Edits.f k a0 a1 a2) (span_Edits.f (k + 1) a0 a1 a2) := by
 intro a0 a1 a2 k
 have ih0 := span_Edits.mono_l k
 unfold span_Edits.f
 repeat' first
   | (with_reducible exact ih0 _ _ _ _ _ _)
   | (with_reducible exact LeO.refl _)
   | (with_reducible exact LeO.none _)
   | (with_reducible refine LeO.ite ?_ ?_)
   | (with_reducible refine LeO.bind ?_ (fun _ => ?_))
   | exact ih0 _ _ _ _ _ _
   | exact LeO.none _
   | refine LeO.ite ?_ ?_
   | refine LeO.bind ?_ (fun _ => ?_)
def span_Edits.T11 : Bool × List (List Nat × List Nat) := (true, [([], []), ([], []), ([1], [1]), ([2], [2]), ([3], [3]), ([], []), ([5], [5]), ([6], [6]), ([7], [7]), ([4, 8], [4, 8]), ([], []), ([10], [10]), ([], []), ([12], [12]), ([13], [13]), ([11, 14], [11, 14]), ([9, 15], [9, 15]), ([0, 0, 1, 2, 3, 4, 5, 6, 7, 8, 9, 10, 11, 12, 13, 14, 15, 16], [0]), ([17, 0, 1, 2, 3, 4, 5, 6, 7, 8, 9, 10, 11, 12, 13, 14, 15, 16], [17]), ([18, 16, 0, 1, 2, 3, 4, 5, 6, 7, 8, 9, 10, 11, 12, 13, 14, 15, 16], [16, 18])])
def span_Edits.B11 : List Nat := [0, 0, 2, 6, 14, 0, 32, 96, 224, 510, 0, 1024, 0, 4096, 12288, 31744, 65534, 131071, 262143, 524287]
theorem span_Edits.tab11 : rtab .any (opsOf Try.f33 11) = span_Edits.T11 := by kernel_rfl
theorem span_Edits.bits11 : waitsOk span_Edits.T11.2 span_Edits.B11 = true := by kernel_rfl
set_option maxHeartbeats 8000000 in
set_option maxRecDepth 100000 in
theorem span_Edits.calls (k : Nat) (A0 : Option Addr) (c0 : Nat) (l0 : List Int) (a1 : Int) (A2 : Option Addr) (c2 : Nat) (l2 : List Int) (r1 : List (S57)) (r2 : Bool) (w : World) (hr0 : Kd.C (Kd.int .u64) w A0 l0.length l0) (hc0 : l0.length ≤ c0) (hr2 : Kd.C (Kd.int .u8) w A2 l2.length l2) (hc2 : l2.length ≤ c2) (h : span_Edits.f k l0 a1 l2 = some (r1, r2)) :
  Calls Try.prog 33 #[.slice A0 l0.length c0, .int .i64 a1, .slice A2 l2.length c2] w fun e w' => ∃ v0_ : Value, e = .returned (.tuple #[v0_, .bool r2]) ∧ Kd.R k57 57 w' w.heap.size (fun _ => True) v0_ r1 ∧ Below w.heap.size w w' := by
 have hu57 := Try.underlying57
 have HR0 := Aside0.mk hr0
 have HC0 := Aside0.mk hc0
 clear hr0 hc0
 have HR2 := Aside0.mk hr2
 have HC2 := Aside0.mk hc2
 clear hr2 hc2
 have HB := Aside0.mk (Below.refl w.heap.size w)
 have H : ((span_within.f l0 a1 (l2.length : Int)).bind fun t198 => (if t198 = true then (span_Edits.l0 k l0 a1 ([] : List (S57)) l2 (l2.length : Int) 0) else (some (([] : List (S57)), false)))) = some (r1, r2) := h
 clear h
 replace H := Option.bind_eq_some_iff.mp H
 obtain ⟨t198, A40, H⟩ := H
 replace H : (if t198 = true then (span_Edits.l0 k l0 a1 ([] : List (S57)) l2 (l2.length : Int) 0) else (some (([] : List (S57)), false))) = some (r1, r2) := H
 have A4 := Aside0.mk A40
 clear A40
 by_cases c5 : t198 = true
 ·
  subst c5
  have H1 : (span_Edits.l0 k l0 a1 ([] : List (S57)) l2 (l2.length : Int) 0) = some (r1, r2) := by rw [if_pos rfl] at H; exact H
  clear H
  have H := H1
  clear H1
  have H' := Aside0.mk H
  clear H
  go_enter Try.func33, Try.ntmps33
  go_wp2_with (first | ((with_reducible refine gate_callee (f := 45) rfl ?_); refine goesL_ (some 17) rfl rfl Try.func45 (by kernel_rfl) rfl #[.slice A0 l0.length c0, .int .i64 a1, .int .i64 (l2.length : Int)] rfl (by (try simp only [List.map_toArray, List.map_cons, List.map_nil]); first | done | rfl | (simp only [List.length_drop, List.length_take]; rfl)) ?_; (with_reducible refine (span_within.calls _ _ l0 a1 (l2.length : Int) true _ ?side1 ?side2 A4.out).mono ?_); (case side1 => repeat (first | exact HR0.out | (with_reducible refine Kd.C_alloc ?_ _) | (with_reducible refine Kd.C_drewN ?_ _) | (with_reducible refine Kd.C_drew ?_))); (case side2 => exact HC0.out); rintro e w' ⟨rfl, ⟨nd, rfl⟩⟩; refine ⟨_, rfl, ?_⟩))
  go_loopg [8, 21] k (fun kq v8 v21 w' => ∃ (x8_1 : List (S57)) (x21_1 : Int), v21 = .int .i64 x21_1 ∧ Aside0 (span_Edits.l0 kq l0 a1 x8_1 l2 (l2.length : Int) x21_1 = some (r1, r2)) ∧ Aside0 (kq ≤ k) ∧ Aside0 (Kd.R k57 57 w' w.heap.size (fun _ => True) v8 x8_1) ∧ Aside0 (Below w.heap.size w w'))
  case atStart => exact ⟨(([] : List (S57))), (0), (by first | rfl | (simp; done) | (simp [*]; done)), H', ⟨Nat.le_refl _⟩, ⟨by first | exact Kd.R_nil _ _ _ _ _ | exact Kd.N_nil _ _ _ _ _ | exact Kd.V_nil _ _ _ _ _ | exact Kd.Q_nil _ _ _ _ _ | exact Kd.S_nil _ _ _ _ _⟩, ⟨by repeat (first | (with_reducible first | exact HB.out | apply below_alloc | apply pw_below_drewN | apply below_drew1) | exact HB.out)⟩⟩
  case round =>
   clear H'
   try clear c2
   try clear p2
   try clear c3
   try clear c4
   try clear c5
   obtain ⟨x8_1, x21_1, rfl, HA, HK1, HO_8, HB⟩ := hrel
   cases gk with
   | zero => exact absurd HA.out (by simp [span_Edits.l0])
   | succ k1 =>
    have H := HA.out
    clear HA
    simp only [span_Edits.l0] at H
    by_cases c6 : x21_1 < (l2.length : Int)
    ·
     rw [if_pos c6] at H
     have c6b0 : decide (x21_1 < (l2.length : Int)) = true := decide_eq_true c6
     clear c6
     by_cases c7 : 0 ≤ x21_1
     ·
      rw [if_pos c7] at H
      have c7b0 : decide (0 ≤ x21_1) = true := decide_eq_true c7
      clear c7
      by_cases c8 : x21_1 < (l2.length : Int)
      ·
       rw [if_pos c8] at H
       have c8b0 : decide (x21_1 < (l2.length : Int)) = true := decide_eq_true c8
       clear c8
       by_cases c9 : (x8_1.length : Int) = 0
       ·
        rw [if_pos c9] at H
        have c9b0 : ((x8_1.length : Int) == 0) = true := beq_iff_eq.mpr c9
        have c9b1 : ((x8_1.length : Int) != 0) = false := bne_eq_false_iff_eq.mpr c9
        clear c9
        obtain ⟨ji10, hji10⟩ : ∃ j_ : Int, (wrap64 (Int.tdiv (wrap64 (a1 + x21_1)) 8)) = j_ := ⟨_, rfl⟩
        replace H : (if 0 ≤ (ji10) then (if (ji10) < (l0.length : Int) then (if x8_1.length < 8796093022208 then ((some (x8_1 ++ [(⟨ji10, rd l0 (ji10)⟩ : S57)] : List (S57))).bind fun y201 => (if 0 ≤ (wrap64 ((y201.length : Int) - 1)) then (if (wrap64 ((y201.length : Int) - 1)) < (y201.length : Int) then (if 0 ≤ (wrap64 ((Int.tmod (wrap64 (a1 + x21_1)) 8) * 8)) then (span_Edits.l0 k1 l0 a1 (y201.set ((wrap64 ((y201.length : Int) - 1)) : Int).toNat (⟨(rd_T57 y201 (wrap64 ((y201.length : Int) - 1))).f0, Go.bits .or .u64 (Go.bits .andNot .u64 ((rd_T57 y201 (wrap64 ((y201.length : Int) - 1))).f1) (shl .u64 255 (wrap64 ((Int.tmod (wrap64 (a1 + x21_1)) 8) * 8)))) (shl .u64 (IntKind.u64.wrap (rd l2 x21_1)) (wrap64 ((Int.tmod (wrap64 (a1 + x21_1)) 8) * 8)))⟩ : S57)) l2 (l2.length : Int) (wrap64 (x21_1 + 1))) else (none)) else (none)) else (none))) else (none)) else (none)) else (none)) = some (r1, r2) := by first | (rw [hji10] at H; exact H) | (simp only [hji10] at H ⊢; exact H)
        have hji10w : (IntKind.i64.wrap (Int.tdiv (wrap64 (a1 + x21_1)) 8)) = ji10 := (i64_w _).trans hji10
        by_cases c11 : 0 ≤ (ji10)
        ·
         rw [if_pos c11] at H
         have c11b0 : decide (0 ≤ (ji10)) = true := decide_eq_true c11
         clear c11
         by_cases c12 : (ji10) < (l0.length : Int)
         ·
          rw [if_pos c12] at H
          have c12b0 : decide ((ji10) < (l0.length : Int)) = true := decide_eq_true c12
          clear c12
          by_cases c13 : x8_1.length < 8796093022208
          ·
           rw [if_pos c13] at H
           have LMc13 := Aside0.mk c13
           clear c13
           obtain ⟨y201, hy201⟩ : ∃ y_ : List (S57), y_ = (x8_1 ++ [(⟨ji10, rd l0 (ji10)⟩ : S57)]) := ⟨_, rfl⟩
           replace H : (if 0 ≤ (wrap64 ((y201.length : Int) - 1)) then (if (wrap64 ((y201.length : Int) - 1)) < (y201.length : Int) then (if 0 ≤ (wrap64 ((Int.tmod (wrap64 (a1 + x21_1)) 8) * 8)) then (span_Edits.l0 k1 l0 a1 (y201.set ((wrap64 ((y201.length : Int) - 1)) : Int).toNat (⟨(rd_T57 y201 (wrap64 ((y201.length : Int) - 1))).f0, Go.bits .or .u64 (Go.bits .andNot .u64 ((rd_T57 y201 (wrap64 ((y201.length : Int) - 1))).f1) (shl .u64 255 (wrap64 ((Int.tmod (wrap64 (a1 + x21_1)) 8) * 8)))) (shl .u64 (IntKind.u64.wrap (rd l2 x21_1)) (wrap64 ((Int.tmod (wrap64 (a1 + x21_1)) 8) * 8)))⟩ : S57)) l2 (l2.length : Int) (wrap64 (x21_1 + 1))) else (none)) else (none)) else (none)) = some (r1, r2) := by first | (rw [hy201]; with_reducible exact H) | (have H2_ := (Option.bind_some _ _).symm.trans H; rw [hy201]; with_reducible exact H2_) | (have H2_ := (Option.bind_some _ _).symm.trans H; with_reducible exact H2_) | with_reducible exact H | (rw [hy201]; exact H) | exact H
           have Ny201 := Aside0.mk hy201
           clear hy201
           obtain ⟨ji14, hji14⟩ : ∃ j_ : Int, (wrap64 ((y201.length : Int) - 1)) = j_ := ⟨_, rfl⟩
           replace H : (if 0 ≤ (ji14) then (if (ji14) < (y201.length : Int) then (if 0 ≤ (wrap64 ((Int.tmod (wrap64 (a1 + x21_1)) 8) * 8)) then (span_Edits.l0 k1 l0 a1 (y201.set ((ji14) : Int).toNat (⟨(rd_T57 y201 (ji14)).f0, Go.bits .or .u64 (Go.bits .andNot .u64 ((rd_T57 y201 (ji14)).f1) (shl .u64 255 (wrap64 ((Int.tmod (wrap64 (a1 + x21_1)) 8) * 8)))) (shl .u64 (IntKind.u64.wrap (rd l2 x21_1)) (wrap64 ((Int.tmod (wrap64 (a1 + x21_1)) 8) * 8)))⟩ : S57)) l2 (l2.length : Int) (wrap64 (x21_1 + 1))) else (none)) else (none)) else (none)) = some (r1, r2) := by first | (rw [hji14] at H; exact H) | (simp only [hji14] at H ⊢; exact H)
           have hji14w : (IntKind.i64.wrap ((y201.length : Int) - 1)) = ji14 := (i64_w _).trans hji14
           by_cases c15 : 0 ≤ (ji14)
           ·
            rw [if_pos c15] at H
            have c15b0 : decide (0 ≤ (ji14)) = true := decide_eq_true c15
            clear c15
            by_cases c16 : (ji14) < (y201.length : Int)
            ·
             rw [if_pos c16] at H
             have c16b0 : decide ((ji14) < (y201.length : Int)) = true := decide_eq_true c16
             clear c16
             obtain ⟨ji18, hji18⟩ : ∃ j_ : Int, (wrap64 ((Int.tmod (wrap64 (a1 + x21_1)) 8) * 8)) = j_ := ⟨_, rfl⟩
             replace H : (if 0 ≤ (ji18) then (span_Edits.l0 k1 l0 a1 (y201.set ((ji14) : Int).toNat (⟨(rd_T57 y201 (ji14)).f0, Go.bits .or .u64 (Go.bits .andNot .u64 ((rd_T57 y201 (ji14)).f1) (shl .u64 255 (ji18))) (shl .u64 (IntKind.u64.wrap (rd l2 x21_1)) (ji18))⟩ : S57)) l2 (l2.length : Int) (wrap64 (x21_1 + 1))) else (none)) = some (r1, r2) := by first | (rw [hji18] at H; exact H) | (simp only [hji18] at H ⊢; exact H)
             have hji18w : (IntKind.i64.wrap ((Int.tmod (wrap64 (a1 + x21_1)) 8) * 8)) = ji18 := (i64_w _).trans hji18
             by_cases c19 : 0 ≤ (ji18)
             ·
              rw [if_pos c19] at H
              have c19b0 := eq_true c19
              have c19b1 : decide (0 ≤ (ji18)) = true := decide_eq_true c19
              clear c19
              obtain ⟨ji20, hji20⟩ : ∃ j_ : Int, (shl .u64 255 (ji18)) = j_ := ⟨_, rfl⟩
              replace H : (span_Edits.l0 k1 l0 a1 (y201.set ((ji14) : Int).toNat (⟨(rd_T57 y201 (ji14)).f0, Go.bits .or .u64 (Go.bits .andNot .u64 ((rd_T57 y201 (ji14)).f1) (ji20)) (shl .u64 (IntKind.u64.wrap (rd l2 x21_1)) (ji18))⟩ : S57)) l2 (l2.length : Int) (wrap64 (x21_1 + 1))) = some (r1, r2) := by first | (rw [hji20] at H; exact H) | (simp only [hji20] at H ⊢; exact H)
              have hji20_ : (IntKind.u64.wrap (255 * 2 ^ min (ji18).toNat 64)) = ji20 := hji20
              have hji20z : (ji18) ≤ 64 → (IntKind.u64.wrap (255 * 2 ^ (ji18).toNat)) = ji20 := shl_small hji20
              have c21b0 := eq_true (of_decide_eq_true (by first | (with_reducible assumption) | assumption) : 0 ≤ (ji18))
              obtain ⟨ji22, hji22⟩ : ∃ j_ : Int, (shl .u64 (IntKind.u64.wrap (rd l2 x21_1)) (ji18)) = j_ := ⟨_, rfl⟩
              replace H : (span_Edits.l0 k1 l0 a1 (y201.set ((ji14) : Int).toNat (⟨(rd_T57 y201 (ji14)).f0, Go.bits .or .u64 (Go.bits .andNot .u64 ((rd_T57 y201 (ji14)).f1) (ji20)) (ji22)⟩ : S57)) l2 (l2.length : Int) (wrap64 (x21_1 + 1))) = some (r1, r2) := by first | (rw [hji22] at H; exact H) | (simp only [hji22] at H ⊢; exact H)
              have hji22_ : (IntKind.u64.wrap ((IntKind.u64.wrap (rd l2 x21_1)) * 2 ^ min (ji18).toNat 64)) = ji22 := hji22
              have hji22z : (ji18) ≤ 64 → (IntKind.u64.wrap ((IntKind.u64.wrap (rd l2 x21_1)) * 2 ^ (ji18).toNat)) = ji22 := shl_small hji22
              obtain ⟨y205, hy205⟩ : ∃ y_ : List (S57), y_ = (y201.set ((ji14) : Int).toNat (⟨(rd_T57 y201 (ji14)).f0, Go.bits .or .u64 (Go.bits .andNot .u64 ((rd_T57 y201 (ji14)).f1) (ji20)) (ji22)⟩ : S57)) := ⟨_, rfl⟩
              replace H : (span_Edits.l0 k1 l0 a1 y205 l2 (l2.length : Int) (wrap64 (x21_1 + 1))) = some (r1, r2) := by first | (rw [hy205]; with_reducible exact H) | (have H2_ := (Option.bind_some _ _).symm.trans H; rw [hy205]; with_reducible exact H2_) | (have H2_ := (Option.bind_some _ _).symm.trans H; with_reducible exact H2_) | with_reducible exact H | (rw [hy205]; exact H) | exact H
              have Ny205 := Aside0.mk hy205
              clear hy205
              have H' := Aside0.mk H
              clear H
              have p199 : 0 ≤ (x21_1 : Int) := of_decide_eq_true (by first | (with_reducible assumption) | assumption)
              have q199 : x21_1 < (l2.length : Int) := of_decide_eq_true (by first | (with_reducible assumption) | assumption)
              obtain ⟨ad199, e199, hx199_0⟩ := Kd.at_int HR2.out x21_1 p199 q199
              cases e199
              replace hx199_0 := (HB.out.cell (World.block_lt_of_cell? w _ hx199_0)).trans hx199_0
              replace p199 := eq_true p199
              replace q199 := eq_true q199
              obtain ⟨Ao24, co24, eo24⟩ := Kd.R_slice HO_8.out
              subst eo24
              have p200 : 0 ≤ ((ji10) : Int) := of_decide_eq_true (by first | (with_reducible assumption) | assumption)
              have q200 : (ji10) < (l0.length : Int) := of_decide_eq_true (by first | (with_reducible assumption) | assumption)
              obtain ⟨ad200, e200, hx200_0⟩ := Kd.at_int HR0.out (ji10) p200 q200
              cases e200
              replace hx200_0 := (HB.out.cell (World.block_lt_of_cell? w _ hx200_0)).trans hx200_0
              replace p200 := eq_true p200
              replace q200 := eq_true q200
              try go_wp2_with (first | ((with_reducible refine gate_builtin (b := .append) (xs := #[.tmp 44, .tmp 53]) rfl ?_); (try (refine gate_guard (by rfl) ?_; dsimp only)); at_builtin; refine Kd.R_append k57 (w0 := w) w.heap.size rfl (.tmp 44) (.tmp 53) 28 57 (.agg #[(.int .i64 0), (.int .u64 0)]) 16 rfl Try.underlying28 info57 rfl (by decide) (by omega) (.slice Ao24 x8_1.length co24) x8_1 (⟨ji10, rd l0 (ji10)⟩ : S57) [.int .i64 ji10, .int .u64 (rd l0 (ji10))] (fun _ => True) (fun _ => False) rfl rfl ?aP (fun _ hk => hk.elim) ?aF ?aO ?aB ?aS ?aL ?_; (case aP => exact k57_mkM _ _ _ (⟨ji10, rd l0 (ji10)⟩ : S57)); (case aB => exact (by repeat (first | (with_reducible first | exact HB.out | apply below_alloc | apply pw_below_drewN | apply below_drew1) | exact HB.out))); (case aF => exact (fun _ _ => trivial)); (case aO => exact (by (with_reducible repeat (first | apply Kd.R_alloc | apply Kd.R_drewN | apply Kd.R_drew)); exact HO_8.out)); (case aS => exact (below_size (by repeat (first | (with_reducible first | exact HB.out | apply below_alloc | apply pw_below_drewN | apply below_drew1) | exact HB.out)))); (case aL => have := LMc13.out; omega); intro v202 w25 ho hb hg hat; rw [← Ny201.out] at ho; have n0_ := Aside0.mk (hb); have n1_ := Aside0.mk (ho); clear HB; clear HO_8; have HB := n0_; have HO203 := n1_; clear n0_ n1_; clear ho hb hg hat; obtain ⟨Ao26, co26, eo26⟩ := Kd.R_slice HO203.out; subst eo26; have p17 : 0 ≤ ((ji14) : Int) := of_decide_eq_true (by first | (with_reducible assumption) | assumption); have q17 : ((ji14) : Int) < ((y201.length : Int) : Int) := of_decide_eq_true (by first | (with_reducible assumption) | assumption); obtain ⟨go17, co17, eo17, gb17, gl17, cl17, HG17⟩ := Kd.R_form HO203.out (by omega); (first | cases eo17 | (injection eo17 with ea_ en_ ec_; (first | subst ea_ | (injection ea_ with ea_; subst ea_)); subst ec_; clear en_)); have GB17 := Aside0.mk gb17; have GG17 := Aside0.mk HG17; clear gb17 gl17 HG17; obtain ⟨ce17, hcl17, hM17, hcc17, hfr17⟩ := Kd.R_elem HO203.out z57 ((ji14) : Int) p17 q17; obtain rfl := k57_openM hM17; have hx17_0 : w25.cell? ⟨go17, ((ji14) : Int).toNat * 2, none⟩ = some (.int .i64 ((rd_T57 y201 (ji14)).f0)) := hcc17 0 _ rfl; have hx17_1 : w25.cell? ⟨go17, ((ji14) : Int).toNat * 2 + 1, none⟩ = some (.int .u64 ((rd_T57 y201 (ji14)).f1)) := hcc17 1 _ rfl; have hf17_0 : w25.frozen? ⟨go17, ((ji14) : Int).toNat * 2, none⟩ = false := hfr17 0; have hf17_1 : w25.frozen? ⟨go17, ((ji14) : Int).toNat * 2 + 1, none⟩ = false := hfr17 1; clear hcl17 hcc17 hfr17 hM17; replace p17 := eq_true p17; replace q17 := eq_true q17))
              have n0_ := Aside0.mk (Kd.R_drew HO203.out)
              have n1_ := Aside0.mk (below_drew1 HB.out)
              clear HO203
              clear HB
              have HO203 := n0_
              have HB := n1_
              clear n0_ n1_
              have p204 : 0 ≤ ((ji14) : Int) := of_decide_eq_true (by first | (with_reducible assumption) | assumption)
              have q204 : (ji14) < (y201.length : Int) := of_decide_eq_true (by first | (with_reducible assumption) | assumption)
              obtain ⟨ad204, e204, hx204_0, hx204_1⟩ := at_T57 (Kd.R_reads' HO203.out).2.2 (ji14) p204 q204
              obtain rfl : (⟨go17, 0, none⟩ : Addr) = ad204 := (by injection e204)
              (first | simp only [add_plain] at hx204_0 | simp only [add_at] at hx204_0 | simp only [Addr.add, Nat.zero_add] at hx204_0 | skip)
              (first | simp only [add_plain] at hx204_1 | simp only [add_at] at hx204_1 | simp only [Addr.add, Nat.zero_add] at hx204_1 | skip)
              replace p204 := eq_true p204
              replace q204 := eq_true q204
              have p23 : 0 ≤ ((ji14) : Int) := of_decide_eq_true (by first | (with_reducible assumption) | assumption)
              have q23 : ((ji14) : Int) < ((y201.length : Int) : Int) := of_decide_eq_true (by first | (with_reducible assumption) | assumption)
              obtain ⟨ce23, hcl23, hM23, hcc23, hfr23⟩ := Kd.R_elem HO203.out z57 ((ji14) : Int) p23 q23
              obtain rfl := k57_openM hM23
              have hx23_0 : World.cell? _ ⟨go17, ((ji14) : Int).toNat * 2, none⟩ = some (.int .i64 ((rd_T57 y201 (ji14)).f0)) := hcc23 0 _ rfl
              have hx23_1 : World.cell? _ ⟨go17, ((ji14) : Int).toNat * 2 + 1, none⟩ = some (.int .u64 ((rd_T57 y201 (ji14)).f1)) := hcc23 1 _ rfl
              have hf23_0 : World.frozen? _ ⟨go17, ((ji14) : Int).toNat * 2, none⟩ = false := hfr23 0
              have hf23_1 : World.frozen? _ ⟨go17, ((ji14) : Int).toNat * 2 + 1, none⟩ = false := hfr23 1
              clear hcl23 hcc23 hfr23 hM23
              replace p23 := eq_true p23
              replace q23 := eq_true q23
              obtain ⟨ce28, hcl28, hM28, hcc28, hfr28⟩ := Kd.R_elem HO203.out z57 ((ji14) : Int) (of_decide_eq_true (by first | (with_reducible assumption) | assumption)) (by have h_ : ((ji14) : Int) < ((y201.length : Int) : Int) := of_decide_eq_true (by first | (with_reducible assumption) | assumption); first | exact h_ | (have e_ := (Kd.R_reads' HO203.out).1; omega) | simpa using h_)
              obtain rfl := k57_openM hM28
              have HP28 := (Kd.R_seg HO203.out ((ji14) : Int) (of_decide_eq_true (by first | (with_reducible assumption) | assumption)) (by have h_ : ((ji14) : Int) < ((y201.length : Int) : Int) := of_decide_eq_true (by first | (with_reducible assumption) | assumption); first | exact h_ | (have e_ := (Kd.R_reads' HO203.out).1; omega) | simpa using h_) (seg := [.int .u64 (Go.bits .or .u64 (Go.bits .andNot .u64 ((rd_T57 y201 (ji14)).f1) (ji20)) (ji22))]) (j := 1) hcl28 hcc28 (show 2 ≤ 2 from by decide) (x' := (⟨(rd_T57 y201 (ji14)).f0, Go.bits .or .u64 (Go.bits .andNot .u64 ((rd_T57 y201 (ji14)).f1) (ji20)) (ji22)⟩ : S57)) (k57_mkM _ _ _ (⟨(rd_T57 y201 (ji14)).f0, Go.bits .or .u64 (Go.bits .andNot .u64 ((rd_T57 y201 (ji14)).f1) (ji20)) (ji22)⟩ : S57) ) (fun _ hk => hk)).1
              rw [← Ny205.out] at HP28
              have HQ28 := Aside0.mk HP28
              clear hcl28 hcc28 hfr28 hM28 HP28
              refine start_ (n := 20) (S := fun w' => w'.cell? ⟨go17, ((ji14)).toNat * 2, none⟩ = some (.int .i64 ((rd_T57 y201 (ji14)).f0)) ∧ w'.cell? ⟨go17, ((ji14)).toNat * 2 + 1, none⟩ = some (.int .u64 ((rd_T57 y201 (ji14)).f1))) (ds := [19]) (onA 20 0) (by kernel_rfl) rfl rfl ⟨hx204_0, hx204_1⟩ (fun hHeld => ?_); refine with_tabW span_Edits.tab11 span_Edits.bits11 (fun HT_ HW_ => ?_)
              generalize w25.drew = w27 at HO203 HB HQ28 hf23_0 hf23_1 hx204_0 hx204_1 hx23_0 hx23_1 hHeld ⊢
              refine pure_ (i := 0) (N := some 60) (v := ?_) (a' := ?_) (onA 20 1) rfl rfl (any_of HT_.out (by kernel_rfl)) (fun _ _ _ h => h) (Or.inl ⟨by rfl, ?_⟩) ?_ ?_
              rotate_left
              ·
               intro w'
               go_simp
               with_reducible rfl
              rotate_left
              ·
               simp only [Act.put, List.setIfInBounds_toArray, List.set_cons_zero, List.set_cons_succ, i64_w, i32_w]
               rfl
              refine pure_ (i := 1) (N := some 61) (v := ?_) (a' := ?_) (onA 20 2) rfl rfl (any_of HT_.out (by kernel_rfl)) (fun _ _ _ h => h) (Or.inl ⟨by rfl, ?_⟩) ?_ ?_
              rotate_left
              ·
               intro w'
               go_simp
               with_reducible rfl
              rotate_left
              ·
               simp only [Act.put, List.setIfInBounds_toArray, List.set_cons_zero, List.set_cons_succ, i64_w, i32_w]
               rfl
              refine pure_ (i := 2) (N := some 62) (v := ?_) (a' := ?_) (onA 20 3) rfl rfl (any_of HT_.out (by kernel_rfl)) (fun _ _ _ h => h) (Or.inl ⟨by rfl, ?_⟩) ?_ ?_
              rotate_left
              ·
               intro w'
               go_simp
               with_reducible rfl
              rotate_left
              ·
               simp only [Act.put, List.setIfInBounds_toArray, List.set_cons_zero, List.set_cons_succ, i64_w, i32_w]
               rfl
              refine pure_ (i := 3) (N := some 63) (v := ?_) (a' := ?_) (onA 20 4) rfl rfl (any_of HT_.out (by kernel_rfl)) (fun _ _ _ h => h) (Or.inl ⟨by rfl, ?_⟩) ?_ ?_
              rotate_left
              ·
               intro w'
               go_simp
               with_reducible rfl
              rotate_left
              ·
               simp only [Act.put, List.setIfInBounds_toArray, List.set_cons_zero, List.set_cons_succ, i64_w, i32_w]
               rfl
              refine pure_ (i := 5) (N := some 65) (v := ?_) (a' := ?_) #[tt_, tt_, tt_, tt_, ff_, tt_, ff_, ff_, ff_, ff_, ff_, ff_, ff_, ff_, ff_, ff_, ff_, ff_, ff_, ff_] rfl rfl (any_of HT_.out (by kernel_rfl)) (fun _ _ _ h => h) (Or.inl ⟨by rfl, ?_⟩) ?_ ?_
              rotate_left
              ·
               intro w'
               go_simp
               with_reducible rfl
              rotate_left
              ·
               simp only [Act.put, List.setIfInBounds_toArray, List.set_cons_zero, List.set_cons_succ, i64_w, i32_w]
               rfl
              refine pure_ (i := 6) (N := some 66) (v := ?_) (a' := ?_) #[tt_, tt_, tt_, tt_, ff_, tt_, tt_, ff_, ff_, ff_, ff_, ff_, ff_, ff_, ff_, ff_, ff_, ff_, ff_, ff_] rfl rfl (any_of HT_.out (by kernel_rfl)) (fun _ _ _ h => h) (Or.inl ⟨by rfl, ?_⟩) ?_ ?_
              rotate_left
              ·
               intro w'
               go_simp
               with_reducible rfl
              rotate_left
              ·
               simp only [Act.put, List.setIfInBounds_toArray, List.set_cons_zero, List.set_cons_succ, i64_w, i32_w]
               rfl
              refine pure_ (i := 7) (N := some 67) (v := ?_) (a' := ?_) #[tt_, tt_, tt_, tt_, ff_, tt_, tt_, tt_, ff_, ff_, ff_, ff_, ff_, ff_, ff_, ff_, ff_, ff_, ff_, ff_] rfl rfl (any_of HT_.out (by kernel_rfl)) (fun _ _ _ h => h) (Or.inl ⟨by rfl, ?_⟩) ?_ ?_
              rotate_left
              ·
               intro w'
               go_simp
               with_reducible rfl
              rotate_left
              ·
               simp only [Act.put, List.setIfInBounds_toArray, List.set_cons_zero, List.set_cons_succ, i64_w, i32_w]
               rfl
              refine pure_ (i := 8) (N := some 68) (v := ?_) (a' := ?_) #[tt_, tt_, tt_, tt_, ff_, tt_, tt_, tt_, tt_, ff_, ff_, ff_, ff_, ff_, ff_, ff_, ff_, ff_, ff_, ff_] rfl rfl (any_of HT_.out (by kernel_rfl)) (fun _ _ _ h => h) (Or.inl ⟨by rfl, ?_⟩) ?_ ?_
              rotate_left
              ·
               intro w'
               go_simp
               with_reducible rfl
              rotate_left
              ·
               simp only [Act.put, List.setIfInBounds_toArray, List.set_cons_zero, List.set_cons_succ, i64_w, i32_w]
               rfl
              refine pure_ (i := 10) (N := some 70) (v := ?_) (a' := ?_) #[tt_, tt_, tt_, tt_, ff_, tt_, tt_, tt_, tt_, ff_, tt_, ff_, ff_, ff_, ff_, ff_, ff_, ff_, ff_, ff_] rfl rfl (any_of HT_.out (by kernel_rfl)) (fun _ _ _ h => h) (Or.inl ⟨by rfl, ?_⟩) ?_ ?_
              rotate_left
              ·
               intro w'
               go_simp
               with_reducible rfl
              rotate_left
              ·
               simp only [Act.put, List.setIfInBounds_toArray, List.set_cons_zero, List.set_cons_succ, i64_w, i32_w]
               rfl
              refine pure_ (i := 11) (N := some 71) (v := ?_) (a' := ?_) #[tt_, tt_, tt_, tt_, ff_, tt_, tt_, tt_, tt_, ff_, tt_, tt_, ff_, ff_, ff_, ff_, ff_, ff_, ff_, ff_] rfl rfl (any_of HT_.out (by kernel_rfl)) (fun _ _ _ h => h) (Or.inl ⟨by rfl, ?_⟩) ?_ ?_
              rotate_left
              ·
               intro w'
               go_simp
               with_reducible rfl
              rotate_left
              ·
               simp only [Act.put, List.setIfInBounds_toArray, List.set_cons_zero, List.set_cons_succ, i64_w, i32_w]
               rfl
              refine pure_ (i := 12) (N := some 72) (v := ?_) (a' := ?_) #[tt_, tt_, tt_, tt_, ff_, tt_, tt_, tt_, tt_, ff_, tt_, tt_, tt_, ff_, ff_, ff_, ff_, ff_, ff_, ff_] rfl rfl (any_of HT_.out (by kernel_rfl)) (fun _ _ _ h => h) (Or.inl ⟨by rfl, ?_⟩) ?_ ?_
              rotate_left
              ·
               intro w'
               go_simp
               with_reducible rfl
              rotate_left
              ·
               simp only [Act.put, List.setIfInBounds_toArray, List.set_cons_zero, List.set_cons_succ, i64_w, i32_w]
               rfl
              refine pure_ (i := 13) (N := some 73) (v := ?_) (a' := ?_) #[tt_, tt_, tt_, tt_, ff_, tt_, tt_, tt_, tt_, ff_, tt_, tt_, tt_, tt_, ff_, ff_, ff_, ff_, ff_, ff_] rfl rfl (any_of HT_.out (by kernel_rfl)) (fun _ _ _ h => h) (Or.inl ⟨by rfl, ?_⟩) ?_ ?_
              rotate_left
              ·
               intro w'
               go_simp
               with_reducible rfl
              rotate_left
              ·
               simp only [Act.put, List.setIfInBounds_toArray, List.set_cons_zero, List.set_cons_succ, i64_w, i32_w]
               rfl
              refine pure_ (i := 14) (N := some 74) (v := ?_) (a' := ?_) #[tt_, tt_, tt_, tt_, ff_, tt_, tt_, tt_, tt_, ff_, tt_, tt_, tt_, tt_, tt_, ff_, ff_, ff_, ff_, ff_] rfl rfl (any_of HT_.out (by kernel_rfl)) (fun _ _ _ h => h) (Or.inl ⟨by rfl, ?_⟩) ?_ ?_
              rotate_left
              ·
               intro w'
               go_simp
               with_reducible rfl
              rotate_left
              ·
               simp only [Act.put, List.setIfInBounds_toArray, List.set_cons_zero, List.set_cons_succ, i64_w, i32_w]
               rfl
              refine pure_ (i := 15) (N := some 75) (v := ?_) (a' := ?_) #[tt_, tt_, tt_, tt_, ff_, tt_, tt_, tt_, tt_, ff_, tt_, tt_, tt_, tt_, tt_, tt_, ff_, ff_, ff_, ff_] rfl rfl (any_of HT_.out (by kernel_rfl)) (fun _ _ _ h => h) (Or.inl ⟨by rfl, ?_⟩) ?_ ?_
              rotate_left
              ·
               intro w'
               go_simp
               with_reducible rfl
              rotate_left
              ·
               simp only [Act.put, List.setIfInBounds_toArray, List.set_cons_zero, List.set_cons_succ, i64_w, i32_w]
               rfl
              refine take_ (i := 4) (N := some 64) (v := ?_) (a' := ?_) #[tt_, tt_, tt_, tt_, tt_, tt_, tt_, tt_, tt_, ff_, tt_, tt_, tt_, tt_, tt_, tt_, ff_, ff_, ff_, ff_] rfl rfl (take_ofW HT_.out HW_.out (by kernel_rfl)) (fun _ _ _ h => h) (Or.inl ⟨by rfl, ?_⟩) hHeld ?_ ?_
              rotate_left
              ·
               rintro w' ⟨s0, s1⟩
               go_simp
               with_reducible rfl
              rotate_left
              ·
               simp only [Act.put, List.setIfInBounds_toArray, List.set_cons_zero, List.set_cons_succ, i64_w, i32_w]
               rfl
              refine pure_ (i := 9) (N := some 69) (v := ?_) (a' := ?_) (onA 20 16) rfl rfl (any_of HT_.out (by kernel_rfl)) (fun _ _ _ h => h) (Or.inl ⟨by rfl, ?_⟩) ?_ ?_
              rotate_left
              ·
               intro w'
               go_simp
               with_reducible rfl
              rotate_left
              ·
               simp only [Act.put, List.setIfInBounds_toArray, List.set_cons_zero, List.set_cons_succ, i64_w, i32_w]
               rfl
              refine pure_ (i := 16) (N := some 76) (v := ?_) (a' := ?_) (onA 20 17) rfl rfl (any_of HT_.out (by kernel_rfl)) (fun _ _ _ h => h) (Or.inl ⟨by rfl, ?_⟩) ?_ ?_
              rotate_left
              ·
               intro w'
               go_simp
               with_reducible rfl
              rotate_left
              ·
               simp only [Act.put, List.setIfInBounds_toArray, List.set_cons_zero, List.set_cons_succ, i64_w, i32_w]
               rfl
              refine pure_ (i := 17) (N := some 77) (v := ?_) (a' := ?_) (onA 20 18) rfl rfl (any_of HT_.out (by kernel_rfl)) (fun _ _ _ h => h) (Or.inl ⟨by rfl, ?_⟩) ?_ ?_
              rotate_left
              ·
               intro w'
               go_simp
               with_reducible rfl
              rotate_left
              ·
               simp only [Act.put, List.setIfInBounds_toArray, List.set_cons_zero, List.set_cons_succ, i64_w, i32_w]
               rfl
              refine pure_ (i := 18) (N := some 78) (v := ?_) (a' := ?_) (onA 20 19) rfl rfl (any_of HT_.out (by kernel_rfl)) (fun _ _ _ h => h) (Or.inl ⟨by rfl, ?_⟩) ?_ ?_
              rotate_left
              ·
               intro w'
               go_simp
               with_reducible rfl
              rotate_left
              ·
               simp only [Act.put, List.setIfInBounds_toArray, List.set_cons_zero, List.set_cons_succ, i64_w, i32_w]
               rfl
              refine last_ (i := 19) (N := none) (onA 20 20) rfl rfl (one_of HT_.out (by kernel_rfl)) (by decide) (fun K hK => ?_)
              refine skip_ (w1 := ?_) (by rfl) rfl ?_ ?_
              rotate_left
              ·
               go_simp
               rfl
              refine hK.out _ _ ?_
              clear hK K
              refine done_ (done_of HT_.out (by kernel_rfl)) ?_
              try go_wp2
              go_roundg k1
              case measure => have := HK1.out; omega
              case rel => exact ⟨(y205), (wrap64 (x21_1 + 1)), (by first | rfl | (simp; done) | (simp [*]; done)), (by first | exact H' | ((try rw [hji10]); (try rw [hji14]); (try rw [hji18]); (try rw [hji20]); (try rw [hji22]); exact H')), ⟨by have := HK1.out; omega⟩, ⟨by (with_reducible repeat (first | apply Kd.R_alloc | apply Kd.R_drewN | apply Kd.R_drew)); exact HQ28.out⟩, ⟨by repeat (first | (with_reducible first | exact HB.out | apply below_alloc | apply pw_below_drewN | apply below_drew1 | refine below_set ?_ GB17.out) | exact HB.out)⟩⟩
             ·
              rw [if_neg c19] at H
              exact absurd H (by simp)
            ·
             rw [if_neg c16] at H
             exact absurd H (by simp)
           ·
            rw [if_neg c15] at H
            exact absurd H (by simp)
          ·
           rw [if_neg c13] at H
           exact absurd H (by simp)
         ·
          rw [if_neg c12] at H
          exact absurd H (by simp)
        ·
         rw [if_neg c11] at H
         exact absurd H (by simp)
       ·
        rw [if_neg c9] at H
        have c9b0 : ((x8_1.length : Int) == 0) = false := beq_eq_false_iff_ne.mpr c9
        have c9b1 : ((x8_1.length : Int) != 0) = true := bne_iff_ne.mpr c9
        have c9b2 : ¬ (x8_1 = []) := fun h_ => c9 (by rw [h_]; rfl)
        obtain ⟨ji29, hji29⟩ : ∃ j_ : Int, (wrap64 ((x8_1.length : Int) - 1)) = j_ := ⟨_, rfl⟩
        replace H : (if 0 ≤ (ji29) then (if (ji29) < (x8_1.length : Int) then (if ((rd_T57 x8_1 (ji29)).f0) = (wrap64 (Int.tdiv (wrap64 (a1 + x21_1)) 8)) then (if 0 ≤ (wrap64 ((Int.tmod (wrap64 (a1 + x21_1)) 8) * 8)) then (span_Edits.l0 k1 l0 a1 (x8_1.set ((ji29) : Int).toNat (⟨(rd_T57 x8_1 (ji29)).f0, Go.bits .or .u64 (Go.bits .andNot .u64 ((rd_T57 x8_1 (ji29)).f1) (shl .u64 255 (wrap64 ((Int.tmod (wrap64 (a1 + x21_1)) 8) * 8)))) (shl .u64 (IntKind.u64.wrap (rd l2 x21_1)) (wrap64 ((Int.tmod (wrap64 (a1 + x21_1)) 8) * 8)))⟩ : S57)) l2 (l2.length : Int) (wrap64 (x21_1 + 1))) else (none)) else (if 0 ≤ (wrap64 (Int.tdiv (wrap64 (a1 + x21_1)) 8)) then (if (wrap64 (Int.tdiv (wrap64 (a1 + x21_1)) 8)) < (l0.length : Int) then (if x8_1.length < 8796093022208 then ((some (x8_1 ++ [(⟨wrap64 (Int.tdiv (wrap64 (a1 + x21_1)) 8), rd l0 (wrap64 (Int.tdiv (wrap64 (a1 + x21_1)) 8))⟩ : S57)] : List (S57))).bind fun y210 => (if 0 ≤ (wrap64 ((y210.length : Int) - 1)) then (if (wrap64 ((y210.length : Int) - 1)) < (y210.length : Int) then (if 0 ≤ (wrap64 ((Int.tmod (wrap64 (a1 + x21_1)) 8) * 8)) then (span_Edits.l0 k1 l0 a1 (y210.set ((wrap64 ((y210.length : Int) - 1)) : Int).toNat (⟨(rd_T57 y210 (wrap64 ((y210.length : Int) - 1))).f0, Go.bits .or .u64 (Go.bits .andNot .u64 ((rd_T57 y210 (wrap64 ((y210.length : Int) - 1))).f1) (shl .u64 255 (wrap64 ((Int.tmod (wrap64 (a1 + x21_1)) 8) * 8)))) (shl .u64 (IntKind.u64.wrap (rd l2 x21_1)) (wrap64 ((Int.tmod (wrap64 (a1 + x21_1)) 8) * 8)))⟩ : S57)) l2 (l2.length : Int) (wrap64 (x21_1 + 1))) else (none)) else (none)) else (none))) else (none)) else (none)) else (none))) else (none)) else (none)) = some (r1, r2) := by first | (rw [hji29] at H; exact H) | (simp only [hji29] at H ⊢; exact H)
        have hji29w : (IntKind.i64.wrap ((x8_1.length : Int) - 1)) = ji29 := (i64_w _).trans hji29
        by_cases c30 : 0 ≤ (ji29)
        ·
         rw [if_pos c30] at H
         have c30b0 : decide (0 ≤ (ji29)) = true := decide_eq_true c30
         clear c30
         by_cases c31 : (ji29) < (x8_1.length : Int)
         ·
          rw [if_pos c31] at H
          have c31b0 : decide ((ji29) < (x8_1.length : Int)) = true := decide_eq_true c31
          clear c31
          by_cases c32 : ((rd_T57 x8_1 (ji29)).f0) = (wrap64 (Int.tdiv (wrap64 (a1 + x21_1)) 8))
          ·
           rw [if_pos c32] at H
           have c32b0 : (((rd_T57 x8_1 (ji29)).f0) == (wrap64 (Int.tdiv (wrap64 (a1 + x21_1)) 8))) = true := beq_iff_eq.mpr c32
           have c32b1 : (((rd_T57 x8_1 (ji29)).f0) != (wrap64 (Int.tdiv (wrap64 (a1 + x21_1)) 8))) = false := bne_eq_false_iff_eq.mpr c32
           clear c32
           obtain ⟨ji34, hji34⟩ : ∃ j_ : Int, (wrap64 ((Int.tmod (wrap64 (a1 + x21_1)) 8) * 8)) = j_ := ⟨_, rfl⟩
           replace H : (if 0 ≤ (ji34) then (span_Edits.l0 k1 l0 a1 (x8_1.set ((ji29) : Int).toNat (⟨(rd_T57 x8_1 (ji29)).f0, Go.bits .or .u64 (Go.bits .andNot .u64 ((rd_T57 x8_1 (ji29)).f1) (shl .u64 255 (ji34))) (shl .u64 (IntKind.u64.wrap (rd l2 x21_1)) (ji34))⟩ : S57)) l2 (l2.length : Int) (wrap64 (x21_1 + 1))) else (none)) = some (r1, r2) := by first | (rw [hji34] at H; exact H) | (simp only [hji34] at H ⊢; exact H)
           have hji34w : (IntKind.i64.wrap ((Int.tmod (wrap64 (a1 + x21_1)) 8) * 8)) = ji34 := (i64_w _).trans hji34
           by_cases c35 : 0 ≤ (ji34)
           ·
            rw [if_pos c35] at H
            have c35b0 := eq_true c35
            have c35b1 : decide (0 ≤ (ji34)) = true := decide_eq_true c35
            clear c35
            obtain ⟨ji36, hji36⟩ : ∃ j_ : Int, (shl .u64 255 (ji34)) = j_ := ⟨_, rfl⟩
            replace H : (span_Edits.l0 k1 l0 a1 (x8_1.set ((ji29) : Int).toNat (⟨(rd_T57 x8_1 (ji29)).f0, Go.bits .or .u64 (Go.bits .andNot .u64 ((rd_T57 x8_1 (ji29)).f1) (ji36)) (shl .u64 (IntKind.u64.wrap (rd l2 x21_1)) (ji34))⟩ : S57)) l2 (l2.length : Int) (wrap64 (x21_1 + 1))) = some (r1, r2) := by first | (rw [hji36] at H; exact H) | (simp only [hji36] at H ⊢; exact H)
            have hji36_ : (IntKind.u64.wrap (255 * 2 ^ min (ji34).toNat 64)) = ji36 := hji36
            have hji36z : (ji34) ≤ 64 → (IntKind.u64.wrap (255 * 2 ^ (ji34).toNat)) = ji36 := shl_small hji36
            have c37b0 := eq_true (of_decide_eq_true (by first | (with_reducible assumption) | assumption) : 0 ≤ (ji34))
            obtain ⟨ji38, hji38⟩ : ∃ j_ : Int, (shl .u64 (IntKind.u64.wrap (rd l2 x21_1)) (ji34)) = j_ := ⟨_, rfl⟩
            replace H : (span_Edits.l0 k1 l0 a1 (x8_1.set ((ji29) : Int).toNat (⟨(rd_T57 x8_1 (ji29)).f0, Go.bits .or .u64 (Go.bits .andNot .u64 ((rd_T57 x8_1 (ji29)).f1) (ji36)) (ji38)⟩ : S57)) l2 (l2.length : Int) (wrap64 (x21_1 + 1))) = some (r1, r2) := by first | (rw [hji38] at H; exact H) | (simp only [hji38] at H ⊢; exact H)
            have hji38_ : (IntKind.u64.wrap ((IntKind.u64.wrap (rd l2 x21_1)) * 2 ^ min (ji34).toNat 64)) = ji38 := hji38
            have hji38z : (ji34) ≤ 64 → (IntKind.u64.wrap ((IntKind.u64.wrap (rd l2 x21_1)) * 2 ^ (ji34).toNat)) = ji38 := shl_small hji38
            obtain ⟨y208, hy208⟩ : ∃ y_ : List (S57), y_ = (x8_1.set ((ji29) : Int).toNat (⟨(rd_T57 x8_1 (ji29)).f0, Go.bits .or .u64 (Go.bits .andNot .u64 ((rd_T57 x8_1 (ji29)).f1) (ji36)) (ji38)⟩ : S57)) := ⟨_, rfl⟩
            replace H : (span_Edits.l0 k1 l0 a1 y208 l2 (l2.length : Int) (wrap64 (x21_1 + 1))) = some (r1, r2) := by first | (rw [hy208]; with_reducible exact H) | (have H2_ := (Option.bind_some _ _).symm.trans H; rw [hy208]; with_reducible exact H2_) | (have H2_ := (Option.bind_some _ _).symm.trans H; with_reducible exact H2_) | with_reducible exact H | (rw [hy208]; exact H) | exact H
            have Ny208 := Aside0.mk hy208
            clear hy208
            have H' := Aside0.mk H
            clear H
            have p199 : 0 ≤ (x21_1 : Int) := of_decide_eq_true (by first | (with_reducible assumption) | assumption)
            have q199 : x21_1 < (l2.length : Int) := of_decide_eq_true (by first | (with_reducible assumption) | assumption)
            obtain ⟨ad199, e199, hx199_0⟩ := Kd.at_int HR2.out x21_1 p199 q199
            cases e199
            replace hx199_0 := (HB.out.cell (World.block_lt_of_cell? w _ hx199_0)).trans hx199_0
            replace p199 := eq_true p199
            replace q199 := eq_true q199
            obtain ⟨Ao40, co40, eo40⟩ := Kd.R_slice HO_8.out
            subst eo40
            have p206 : 0 ≤ ((ji29) : Int) := of_decide_eq_true (by first | (with_reducible assumption) | assumption)
            have q206 : (ji29) < (x8_1.length : Int) := of_decide_eq_true (by first | (with_reducible assumption) | assumption)
            obtain ⟨ad206, e206, hx206_0, hx206_1⟩ := at_T57 (Kd.R_reads' HO_8.out).2.2 (ji29) p206 q206
            cases e206
            replace p206 := eq_true p206
            replace q206 := eq_true q206
            have p33 : 0 ≤ ((ji29) : Int) := of_decide_eq_true (by first | (with_reducible assumption) | assumption)
            have q33 : ((ji29) : Int) < ((x8_1.length : Int) : Int) := of_decide_eq_true (by first | (with_reducible assumption) | assumption)
            obtain ⟨go33, co33, eo33, gb33, gl33, cl33, HG33⟩ := Kd.R_form HO_8.out (by omega)
            (first | cases eo33 | (injection eo33 with ea_ en_ ec_; (first | subst ea_ | (injection ea_ with ea_; subst ea_)); subst ec_; clear en_))
            have GB33 := Aside0.mk gb33
            have GG33 := Aside0.mk HG33
            clear gb33 gl33 HG33
            (first | simp only [add_plain] at hx206_0 | skip)
            (first | simp only [add_plain] at hx206_1 | skip)
            obtain ⟨ce33, hcl33, hM33, hcc33, hfr33⟩ := Kd.R_elem HO_8.out z57 ((ji29) : Int) p33 q33
            obtain rfl := k57_openM hM33
            have hx33_0 : wr.cell? ⟨go33, ((ji29) : Int).toNat * 2, none⟩ = some (.int .i64 ((rd_T57 x8_1 (ji29)).f0)) := hcc33 0 _ rfl
            have hx33_1 : wr.cell? ⟨go33, ((ji29) : Int).toNat * 2 + 1, none⟩ = some (.int .u64 ((rd_T57 x8_1 (ji29)).f1)) := hcc33 1 _ rfl
            have hf33_0 : wr.frozen? ⟨go33, ((ji29) : Int).toNat * 2, none⟩ = false := hfr33 0
            have hf33_1 : wr.frozen? ⟨go33, ((ji29) : Int).toNat * 2 + 1, none⟩ = false := hfr33 1
            clear hcl33 hcc33 hfr33 hM33
            replace p33 := eq_true p33
            replace q33 := eq_true q33
            try go_wp2
            have n0_ := Aside0.mk (Kd.R_drew HO_8.out)
            have n1_ := Aside0.mk (below_drew1 HB.out)
            clear HO_8
            clear HB
            have HO_8 := n0_
            have HB := n1_
            clear n0_ n1_
            have p207 : 0 ≤ ((ji29) : Int) := of_decide_eq_true (by first | (with_reducible assumption) | assumption)
            have q207 : (ji29) < (x8_1.length : Int) := of_decide_eq_true (by first | (with_reducible assumption) | assumption)
            obtain ⟨ad207, e207, hx207_0, hx207_1⟩ := at_T57 (Kd.R_reads' HO_8.out).2.2 (ji29) p207 q207
            obtain rfl : (⟨go33, 0, none⟩ : Addr) = ad207 := (by injection e207)
            (first | simp only [add_plain] at hx207_0 | simp only [add_at] at hx207_0 | simp only [Addr.add, Nat.zero_add] at hx207_0 | skip)
            (first | simp only [add_plain] at hx207_1 | simp only [add_at] at hx207_1 | simp only [Addr.add, Nat.zero_add] at hx207_1 | skip)
            replace p207 := eq_true p207
            replace q207 := eq_true q207
            have p39 : 0 ≤ ((ji29) : Int) := of_decide_eq_true (by first | (with_reducible assumption) | assumption)
            have q39 : ((ji29) : Int) < ((x8_1.length : Int) : Int) := of_decide_eq_true (by first | (with_reducible assumption) | assumption)
            obtain ⟨ce39, hcl39, hM39, hcc39, hfr39⟩ := Kd.R_elem HO_8.out z57 ((ji29) : Int) p39 q39
            obtain rfl := k57_openM hM39
            have hx39_0 : World.cell? _ ⟨go33, ((ji29) : Int).toNat * 2, none⟩ = some (.int .i64 ((rd_T57 x8_1 (ji29)).f0)) := hcc39 0 _ rfl
            have hx39_1 : World.cell? _ ⟨go33, ((ji29) : Int).toNat * 2 + 1, none⟩ = some (.int .u64 ((rd_T57 x8_1 (ji29)).f1)) := hcc39 1 _ rfl
            have hf39_0 : World.frozen? _ ⟨go33, ((ji29) : Int).toNat * 2, none⟩ = false := hfr39 0
            have hf39_1 : World.frozen? _ ⟨go33, ((ji29) : Int).toNat * 2 + 1, none⟩ = false := hfr39 1
            clear hcl39 hcc39 hfr39 hM39
            replace p39 := eq_true p39
            replace q39 := eq_true q39
            obtain ⟨ce42, hcl42, hM42, hcc42, hfr42⟩ := Kd.R_elem HO_8.out z57 ((ji29) : Int) (of_decide_eq_true (by first | (with_reducible assumption) | assumption)) (by have h_ : ((ji29) : Int) < ((x8_1.length : Int) : Int) := of_decide_eq_true (by first | (with_reducible assumption) | assumption); first | exact h_ | (have e_ := (Kd.R_reads' HO_8.out).1; omega) | simpa using h_)
            obtain rfl := k57_openM hM42
            have HP42 := (Kd.R_seg HO_8.out ((ji29) : Int) (of_decide_eq_true (by first | (with_reducible assumption) | assumption)) (by have h_ : ((ji29) : Int) < ((x8_1.length : Int) : Int) := of_decide_eq_true (by first | (with_reducible assumption) | assumption); first | exact h_ | (have e_ := (Kd.R_reads' HO_8.out).1; omega) | simpa using h_) (seg := [.int .u64 (Go.bits .or .u64 (Go.bits .andNot .u64 ((rd_T57 x8_1 (ji29)).f1) (ji36)) (ji38))]) (j := 1) hcl42 hcc42 (show 2 ≤ 2 from by decide) (x' := (⟨(rd_T57 x8_1 (ji29)).f0, Go.bits .or .u64 (Go.bits .andNot .u64 ((rd_T57 x8_1 (ji29)).f1) (ji36)) (ji38)⟩ : S57)) (k57_mkM _ _ _ (⟨(rd_T57 x8_1 (ji29)).f0, Go.bits .or .u64 (Go.bits .andNot .u64 ((rd_T57 x8_1 (ji29)).f1) (ji36)) (ji38)⟩ : S57) ) (fun _ hk => hk)).1
            rw [← Ny208.out] at HP42
            have HQ42 := Aside0.mk HP42
            clear hcl42 hcc42 hfr42 hM42 HP42
            refine start_ (n := 20) (S := fun w' => w'.cell? ⟨go33, ((ji29)).toNat * 2, none⟩ = some (.int .i64 ((rd_T57 x8_1 (ji29)).f0)) ∧ w'.cell? ⟨go33, ((ji29)).toNat * 2 + 1, none⟩ = some (.int .u64 ((rd_T57 x8_1 (ji29)).f1))) (ds := [19]) (onA 20 0) (by kernel_rfl) rfl rfl ⟨hx207_0, hx207_1⟩ (fun hHeld => ?_); refine with_tabW span_Edits.tab11 span_Edits.bits11 (fun HT_ HW_ => ?_)
            generalize wr.drew = w41 at HO_8 HB HQ42 hf39_0 hf39_1 hx207_0 hx207_1 hx39_0 hx39_1 hHeld ⊢
            refine pure_ (i := 0) (N := some 60) (v := ?_) (a' := ?_) (onA 20 1) rfl rfl (any_of HT_.out (by kernel_rfl)) (fun _ _ _ h => h) (Or.inl ⟨by rfl, ?_⟩) ?_ ?_
            rotate_left
            ·
             intro w'
             go_simp
             with_reducible rfl
            rotate_left
            ·
             simp only [Act.put, List.setIfInBounds_toArray, List.set_cons_zero, List.set_cons_succ, i64_w, i32_w]
             rfl
            refine pure_ (i := 1) (N := some 61) (v := ?_) (a' := ?_) (onA 20 2) rfl rfl (any_of HT_.out (by kernel_rfl)) (fun _ _ _ h => h) (Or.inl ⟨by rfl, ?_⟩) ?_ ?_
            rotate_left
            ·
             intro w'
             go_simp
             with_reducible rfl
            rotate_left
            ·
             simp only [Act.put, List.setIfInBounds_toArray, List.set_cons_zero, List.set_cons_succ, i64_w, i32_w]
             rfl
            refine pure_ (i := 2) (N := some 62) (v := ?_) (a' := ?_) (onA 20 3) rfl rfl (any_of HT_.out (by kernel_rfl)) (fun _ _ _ h => h) (Or.inl ⟨by rfl, ?_⟩) ?_ ?_
            rotate_left
            ·
             intro w'
             go_simp
             with_reducible rfl
            rotate_left
            ·
             simp only [Act.put, List.setIfInBounds_toArray, List.set_cons_zero, List.set_cons_succ, i64_w, i32_w]
             rfl
            refine pure_ (i := 3) (N := some 63) (v := ?_) (a' := ?_) (onA 20 4) rfl rfl (any_of HT_.out (by kernel_rfl)) (fun _ _ _ h => h) (Or.inl ⟨by rfl, ?_⟩) ?_ ?_
            rotate_left
            ·
             intro w'
             go_simp
             with_reducible rfl
            rotate_left
            ·
             simp only [Act.put, List.setIfInBounds_toArray, List.set_cons_zero, List.set_cons_succ, i64_w, i32_w]
             rfl
            refine pure_ (i := 5) (N := some 65) (v := ?_) (a' := ?_) #[tt_, tt_, tt_, tt_, ff_, tt_, ff_, ff_, ff_, ff_, ff_, ff_, ff_, ff_, ff_, ff_, ff_, ff_, ff_, ff_] rfl rfl (any_of HT_.out (by kernel_rfl)) (fun _ _ _ h => h) (Or.inl ⟨by rfl, ?_⟩) ?_ ?_
            rotate_left
            ·
             intro w'
             go_simp
             with_reducible rfl
            rotate_left
            ·
             simp only [Act.put, List.setIfInBounds_toArray, List.set_cons_zero, List.set_cons_succ, i64_w, i32_w]
             rfl
            refine pure_ (i := 6) (N := some 66) (v := ?_) (a' := ?_) #[tt_, tt_, tt_, tt_, ff_, tt_, tt_, ff_, ff_, ff_, ff_, ff_, ff_, ff_, ff_, ff_, ff_, ff_, ff_, ff_] rfl rfl (any_of HT_.out (by kernel_rfl)) (fun _ _ _ h => h) (Or.inl ⟨by rfl, ?_⟩) ?_ ?_
            rotate_left
            ·
             intro w'
             go_simp
             with_reducible rfl
            rotate_left
            ·
             simp only [Act.put, List.setIfInBounds_toArray, List.set_cons_zero, List.set_cons_succ, i64_w, i32_w]
             rfl
            refine pure_ (i := 7) (N := some 67) (v := ?_) (a' := ?_) #[tt_, tt_, tt_, tt_, ff_, tt_, tt_, tt_, ff_, ff_, ff_, ff_, ff_, ff_, ff_, ff_, ff_, ff_, ff_, ff_] rfl rfl (any_of HT_.out (by kernel_rfl)) (fun _ _ _ h => h) (Or.inl ⟨by rfl, ?_⟩) ?_ ?_
            rotate_left
            ·
             intro w'
             go_simp
             with_reducible rfl
            rotate_left
            ·
             simp only [Act.put, List.setIfInBounds_toArray, List.set_cons_zero, List.set_cons_succ, i64_w, i32_w]
             rfl
            refine pure_ (i := 8) (N := some 68) (v := ?_) (a' := ?_) #[tt_, tt_, tt_, tt_, ff_, tt_, tt_, tt_, tt_, ff_, ff_, ff_, ff_, ff_, ff_, ff_, ff_, ff_, ff_, ff_] rfl rfl (any_of HT_.out (by kernel_rfl)) (fun _ _ _ h => h) (Or.inl ⟨by rfl, ?_⟩) ?_ ?_
            rotate_left
            ·
             intro w'
             go_simp
             with_reducible rfl
            rotate_left
            ·
             simp only [Act.put, List.setIfInBounds_toArray, List.set_cons_zero, List.set_cons_succ, i64_w, i32_w]
             rfl
            refine pure_ (i := 10) (N := some 70) (v := ?_) (a' := ?_) #[tt_, tt_, tt_, tt_, ff_, tt_, tt_, tt_, tt_, ff_, tt_, ff_, ff_, ff_, ff_, ff_, ff_, ff_, ff_, ff_] rfl rfl (any_of HT_.out (by kernel_rfl)) (fun _ _ _ h => h) (Or.inl ⟨by rfl, ?_⟩) ?_ ?_
            rotate_left
            ·
             intro w'
             go_simp
             with_reducible rfl
            rotate_left
            ·
             simp only [Act.put, List.setIfInBounds_toArray, List.set_cons_zero, List.set_cons_succ, i64_w, i32_w]
             rfl
            refine pure_ (i := 11) (N := some 71) (v := ?_) (a' := ?_) #[tt_, tt_, tt_, tt_, ff_, tt_, tt_, tt_, tt_, ff_, tt_, tt_, ff_, ff_, ff_, ff_, ff_, ff_, ff_, ff_] rfl rfl (any_of HT_.out (by kernel_rfl)) (fun _ _ _ h => h) (Or.inl ⟨by rfl, ?_⟩) ?_ ?_
            rotate_left
            ·
             intro w'
             go_simp
             with_reducible rfl
            rotate_left
            ·
             simp only [Act.put, List.setIfInBounds_toArray, List.set_cons_zero, List.set_cons_succ, i64_w, i32_w]
             rfl
            refine pure_ (i := 12) (N := some 72) (v := ?_) (a' := ?_) #[tt_, tt_, tt_, tt_, ff_, tt_, tt_, tt_, tt_, ff_, tt_, tt_, tt_, ff_, ff_, ff_, ff_, ff_, ff_, ff_] rfl rfl (any_of HT_.out (by kernel_rfl)) (fun _ _ _ h => h) (Or.inl ⟨by rfl, ?_⟩) ?_ ?_
            rotate_left
            ·
             intro w'
             go_simp
             with_reducible rfl
            rotate_left
            ·
             simp only [Act.put, List.setIfInBounds_toArray, List.set_cons_zero, List.set_cons_succ, i64_w, i32_w]
             rfl
            refine pure_ (i := 13) (N := some 73) (v := ?_) (a' := ?_) #[tt_, tt_, tt_, tt_, ff_, tt_, tt_, tt_, tt_, ff_, tt_, tt_, tt_, tt_, ff_, ff_, ff_, ff_, ff_, ff_] rfl rfl (any_of HT_.out (by kernel_rfl)) (fun _ _ _ h => h) (Or.inl ⟨by rfl, ?_⟩) ?_ ?_
            rotate_left
            ·
             intro w'
             go_simp
             with_reducible rfl
            rotate_left
            ·
             simp only [Act.put, List.setIfInBounds_toArray, List.set_cons_zero, List.set_cons_succ, i64_w, i32_w]
             rfl
            refine pure_ (i := 14) (N := some 74) (v := ?_) (a' := ?_) #[tt_, tt_, tt_, tt_, ff_, tt_, tt_, tt_, tt_, ff_, tt_, tt_, tt_, tt_, tt_, ff_, ff_, ff_, ff_, ff_] rfl rfl (any_of HT_.out (by kernel_rfl)) (fun _ _ _ h => h) (Or.inl ⟨by rfl, ?_⟩) ?_ ?_
            rotate_left
            ·
             intro w'
             go_simp
             with_reducible rfl
            rotate_left
            ·
             simp only [Act.put, List.setIfInBounds_toArray, List.set_cons_zero, List.set_cons_succ, i64_w, i32_w]
             rfl
            refine pure_ (i := 15) (N := some 75) (v := ?_) (a' := ?_) #[tt_, tt_, tt_, tt_, ff_, tt_, tt_, tt_, tt_, ff_, tt_, tt_, tt_, tt_, tt_, tt_, ff_, ff_, ff_, ff_] rfl rfl (any_of HT_.out (by kernel_rfl)) (fun _ _ _ h => h) (Or.inl ⟨by rfl, ?_⟩) ?_ ?_
            rotate_left
            ·
             intro w'
             go_simp
             with_reducible rfl
            rotate_left
            ·
             simp only [Act.put, List.setIfInBounds_toArray, List.set_cons_zero, List.set_cons_succ, i64_w, i32_w]
             rfl
            refine take_ (i := 4) (N := some 64) (v := ?_) (a' := ?_) #[tt_, tt_, tt_, tt_, tt_, tt_, tt_, tt_, tt_, ff_, tt_, tt_, tt_, tt_, tt_, tt_, ff_, ff_, ff_, ff_] rfl rfl (take_ofW HT_.out HW_.out (by kernel_rfl)) (fun _ _ _ h => h) (Or.inl ⟨by rfl, ?_⟩) hHeld ?_ ?_
            rotate_left
            ·
             rintro w' ⟨s0, s1⟩
             go_simp
             with_reducible rfl
            rotate_left
            ·
             simp only [Act.put, List.setIfInBounds_toArray, List.set_cons_zero, List.set_cons_succ, i64_w, i32_w]
             rfl
            refine pure_ (i := 9) (N := some 69) (v := ?_) (a' := ?_) (onA 20 16) rfl rfl (any_of HT_.out (by kernel_rfl)) (fun _ _ _ h => h) (Or.inl ⟨by rfl, ?_⟩) ?_ ?_
            rotate_left
            ·
             intro w'
             go_simp
             with_reducible rfl
            rotate_left
            ·
             simp only [Act.put, List.setIfInBounds_toArray, List.set_cons_zero, List.set_cons_succ, i64_w, i32_w]
             rfl
            refine pure_ (i := 16) (N := some 76) (v := ?_) (a' := ?_) (onA 20 17) rfl rfl (any_of HT_.out (by kernel_rfl)) (fun _ _ _ h => h) (Or.inl ⟨by rfl, ?_⟩) ?_ ?_
            rotate_left
            ·
             intro w'
             go_simp
             with_reducible rfl
            rotate_left
            ·
             simp only [Act.put, List.setIfInBounds_toArray, List.set_cons_zero, List.set_cons_succ, i64_w, i32_w]
             rfl
            refine pure_ (i := 17) (N := some 77) (v := ?_) (a' := ?_) (onA 20 18) rfl rfl (any_of HT_.out (by kernel_rfl)) (fun _ _ _ h => h) (Or.inl ⟨by rfl, ?_⟩) ?_ ?_
            rotate_left
            ·
             intro w'
             go_simp
             with_reducible rfl
            rotate_left
            ·
             simp only [Act.put, List.setIfInBounds_toArray, List.set_cons_zero, List.set_cons_succ, i64_w, i32_w]
             rfl
            refine pure_ (i := 18) (N := some 78) (v := ?_) (a' := ?_) (onA 20 19) rfl rfl (any_of HT_.out (by kernel_rfl)) (fun _ _ _ h => h) (Or.inl ⟨by rfl, ?_⟩) ?_ ?_
            rotate_left
            ·
             intro w'
             go_simp
             with_reducible rfl
            rotate_left
            ·
             simp only [Act.put, List.setIfInBounds_toArray, List.set_cons_zero, List.set_cons_succ, i64_w, i32_w]
             rfl
            refine last_ (i := 19) (N := none) (onA 20 20) rfl rfl (one_of HT_.out (by kernel_rfl)) (by decide) (fun K hK => ?_)
            refine skip_ (w1 := ?_) (by rfl) rfl ?_ ?_
            rotate_left
            ·
             go_simp
             rfl
            refine hK.out _ _ ?_
            clear hK K
            refine done_ (done_of HT_.out (by kernel_rfl)) ?_
            try go_wp2
            go_roundg k1
            case measure => have := HK1.out; omega
            case rel => exact ⟨(y208), (wrap64 (x21_1 + 1)), (by first | rfl | (simp; done) | (simp [*]; done)), (by first | exact H' | ((try rw [hji10]); (try rw [hji14]); (try rw [hji18]); (try rw [hji20]); (try rw [hji22]); (try rw [hji29]); (try rw [hji34]); (try rw [hji36]); (try rw [hji38]); exact H')), ⟨by have := HK1.out; omega⟩, ⟨by (with_reducible repeat (first | apply Kd.R_alloc | apply Kd.R_drewN | apply Kd.R_drew)); exact HQ42.out⟩, ⟨by repeat (first | (with_reducible first | exact HB.out | apply below_alloc | apply pw_below_drewN | apply below_drew1 | refine below_set ?_ GB33.out) | exact HB.out)⟩⟩
           ·
            rw [if_neg c35] at H
            exact absurd H (by simp)
          ·
           rw [if_neg c32] at H
           have c32b0 : (((rd_T57 x8_1 (ji29)).f0) == (wrap64 (Int.tdiv (wrap64 (a1 + x21_1)) 8))) = false := beq_eq_false_iff_ne.mpr c32
           have c32b1 : (((rd_T57 x8_1 (ji29)).f0) != (wrap64 (Int.tdiv (wrap64 (a1 + x21_1)) 8))) = true := bne_iff_ne.mpr c32
           obtain ⟨ji43, hji43⟩ : ∃ j_ : Int, (wrap64 (Int.tdiv (wrap64 (a1 + x21_1)) 8)) = j_ := ⟨_, rfl⟩
           replace H : (if 0 ≤ (ji43) then (if (ji43) < (l0.length : Int) then (if x8_1.length < 8796093022208 then ((some (x8_1 ++ [(⟨ji43, rd l0 (ji43)⟩ : S57)] : List (S57))).bind fun y210 => (if 0 ≤ (wrap64 ((y210.length : Int) - 1)) then (if (wrap64 ((y210.length : Int) - 1)) < (y210.length : Int) then (if 0 ≤ (wrap64 ((Int.tmod (wrap64 (a1 + x21_1)) 8) * 8)) then (span_Edits.l0 k1 l0 a1 (y210.set ((wrap64 ((y210.length : Int) - 1)) : Int).toNat (⟨(rd_T57 y210 (wrap64 ((y210.length : Int) - 1))).f0, Go.bits .or .u64 (Go.bits .andNot .u64 ((rd_T57 y210 (wrap64 ((y210.length : Int) - 1))).f1) (shl .u64 255 (wrap64 ((Int.tmod (wrap64 (a1 + x21_1)) 8) * 8)))) (shl .u64 (IntKind.u64.wrap (rd l2 x21_1)) (wrap64 ((Int.tmod (wrap64 (a1 + x21_1)) 8) * 8)))⟩ : S57)) l2 (l2.length : Int) (wrap64 (x21_1 + 1))) else (none)) else (none)) else (none))) else (none)) else (none)) else (none)) = some (r1, r2) := by first | (rw [hji43] at H; exact H) | (simp only [hji43] at H ⊢; exact H)
           (try rw [hji43] at c32b0)
           (try rw [hji43] at c32b1)
           have hji43w : (IntKind.i64.wrap (Int.tdiv (wrap64 (a1 + x21_1)) 8)) = ji43 := (i64_w _).trans hji43
           by_cases c44 : 0 ≤ (ji43)
           ·
            rw [if_pos c44] at H
            have c44b0 : decide (0 ≤ (ji43)) = true := decide_eq_true c44
            clear c44
            by_cases c45 : (ji43) < (l0.length : Int)
            ·
             rw [if_pos c45] at H
             have c45b0 : decide ((ji43) < (l0.length : Int)) = true := decide_eq_true c45
             clear c45
             by_cases c46 : x8_1.length < 8796093022208
             ·
              rw [if_pos c46] at H
              have LMc46 := Aside0.mk c46
              clear c46
              obtain ⟨y210, hy210⟩ : ∃ y_ : List (S57), y_ = (x8_1 ++ [(⟨ji43, rd l0 (ji43)⟩ : S57)]) := ⟨_, rfl⟩
              replace H : (if 0 ≤ (wrap64 ((y210.length : Int) - 1)) then (if (wrap64 ((y210.length : Int) - 1)) < (y210.length : Int) then (if 0 ≤ (wrap64 ((Int.tmod (wrap64 (a1 + x21_1)) 8) * 8)) then (span_Edits.l0 k1 l0 a1 (y210.set ((wrap64 ((y210.length : Int) - 1)) : Int).toNat (⟨(rd_T57 y210 (wrap64 ((y210.length : Int) - 1))).f0, Go.bits .or .u64 (Go.bits .andNot .u64 ((rd_T57 y210 (wrap64 ((y210.length : Int) - 1))).f1) (shl .u64 255 (wrap64 ((Int.tmod (wrap64 (a1 + x21_1)) 8) * 8)))) (shl .u64 (IntKind.u64.wrap (rd l2 x21_1)) (wrap64 ((Int.tmod (wrap64 (a1 + x21_1)) 8) * 8)))⟩ : S57)) l2 (l2.length : Int) (wrap64 (x21_1 + 1))) else (none)) else (none)) else (none)) = some (r1, r2) := by first | (rw [hy210]; with_reducible exact H) | (have H2_ := (Option.bind_some _ _).symm.trans H; rw [hy210]; with_reducible exact H2_) | (have H2_ := (Option.bind_some _ _).symm.trans H; with_reducible exact H2_) | with_reducible exact H | (rw [hy210]; exact H) | exact H
              have Ny210 := Aside0.mk hy210
              clear hy210
              obtain ⟨ji47, hji47⟩ : ∃ j_ : Int, (wrap64 ((y210.length : Int) - 1)) = j_ := ⟨_, rfl⟩
              replace H : (if 0 ≤ (ji47) then (if (ji47) < (y210.length : Int) then (if 0 ≤ (wrap64 ((Int.tmod (wrap64 (a1 + x21_1)) 8) * 8)) then (span_Edits.l0 k1 l0 a1 (y210.set ((ji47) : Int).toNat (⟨(rd_T57 y210 (ji47)).f0, Go.bits .or .u64 (Go.bits .andNot .u64 ((rd_T57 y210 (ji47)).f1) (shl .u64 255 (wrap64 ((Int.tmod (wrap64 (a1 + x21_1)) 8) * 8)))) (shl .u64 (IntKind.u64.wrap (rd l2 x21_1)) (wrap64 ((Int.tmod (wrap64 (a1 + x21_1)) 8) * 8)))⟩ : S57)) l2 (l2.length : Int) (wrap64 (x21_1 + 1))) else (none)) else (none)) else (none)) = some (r1, r2) := by first | (rw [hji47] at H; exact H) | (simp only [hji47] at H ⊢; exact H)
              have hji47w : (IntKind.i64.wrap ((y210.length : Int) - 1)) = ji47 := (i64_w _).trans hji47
              by_cases c48 : 0 ≤ (ji47)
              ·
               rw [if_pos c48] at H
               have c48b0 : decide (0 ≤ (ji47)) = true := decide_eq_true c48
               clear c48
               by_cases c49 : (ji47) < (y210.length : Int)
               ·
                rw [if_pos c49] at H
                have c49b0 : decide ((ji47) < (y210.length : Int)) = true := decide_eq_true c49
                clear c49
                obtain ⟨ji51, hji51⟩ : ∃ j_ : Int, (wrap64 ((Int.tmod (wrap64 (a1 + x21_1)) 8) * 8)) = j_ := ⟨_, rfl⟩
                replace H : (if 0 ≤ (ji51) then (span_Edits.l0 k1 l0 a1 (y210.set ((ji47) : Int).toNat (⟨(rd_T57 y210 (ji47)).f0, Go.bits .or .u64 (Go.bits .andNot .u64 ((rd_T57 y210 (ji47)).f1) (shl .u64 255 (ji51))) (shl .u64 (IntKind.u64.wrap (rd l2 x21_1)) (ji51))⟩ : S57)) l2 (l2.length : Int) (wrap64 (x21_1 + 1))) else (none)) = some (r1, r2) := by first | (rw [hji51] at H; exact H) | (simp only [hji51] at H ⊢; exact H)
                have hji51w : (IntKind.i64.wrap ((Int.tmod (wrap64 (a1 + x21_1)) 8) * 8)) = ji51 := (i64_w _).trans hji51
                by_cases c52 : 0 ≤ (ji51)
                ·
                 rw [if_pos c52] at H
                 have c52b0 := eq_true c52
                 have c52b1 : decide (0 ≤ (ji51)) = true := decide_eq_true c52
                 clear c52
                 obtain ⟨ji53, hji53⟩ : ∃ j_ : Int, (shl .u64 255 (ji51)) = j_ := ⟨_, rfl⟩
                 replace H : (span_Edits.l0 k1 l0 a1 (y210.set ((ji47) : Int).toNat (⟨(rd_T57 y210 (ji47)).f0, Go.bits .or .u64 (Go.bits .andNot .u64 ((rd_T57 y210 (ji47)).f1) (ji53)) (shl .u64 (IntKind.u64.wrap (rd l2 x21_1)) (ji51))⟩ : S57)) l2 (l2.length : Int) (wrap64 (x21_1 + 1))) = some (r1, r2) := by first | (rw [hji53] at H; exact H) | (simp only [hji53] at H ⊢; exact H)
                 have hji53_ : (IntKind.u64.wrap (255 * 2 ^ min (ji51).toNat 64)) = ji53 := hji53
                 have hji53z : (ji51) ≤ 64 → (IntKind.u64.wrap (255 * 2 ^ (ji51).toNat)) = ji53 := shl_small hji53
                 have c54b0 := eq_true (of_decide_eq_true (by first | (with_reducible assumption) | assumption) : 0 ≤ (ji51))
                 obtain ⟨ji55, hji55⟩ : ∃ j_ : Int, (shl .u64 (IntKind.u64.wrap (rd l2 x21_1)) (ji51)) = j_ := ⟨_, rfl⟩
                 replace H : (span_Edits.l0 k1 l0 a1 (y210.set ((ji47) : Int).toNat (⟨(rd_T57 y210 (ji47)).f0, Go.bits .or .u64 (Go.bits .andNot .u64 ((rd_T57 y210 (ji47)).f1) (ji53)) (ji55)⟩ : S57)) l2 (l2.length : Int) (wrap64 (x21_1 + 1))) = some (r1, r2) := by first | (rw [hji55] at H; exact H) | (simp only [hji55] at H ⊢; exact H)
                 have hji55_ : (IntKind.u64.wrap ((IntKind.u64.wrap (rd l2 x21_1)) * 2 ^ min (ji51).toNat 64)) = ji55 := hji55
                 have hji55z : (ji51) ≤ 64 → (IntKind.u64.wrap ((IntKind.u64.wrap (rd l2 x21_1)) * 2 ^ (ji51).toNat)) = ji55 := shl_small hji55
                 obtain ⟨y214, hy214⟩ : ∃ y_ : List (S57), y_ = (y210.set ((ji47) : Int).toNat (⟨(rd_T57 y210 (ji47)).f0, Go.bits .or .u64 (Go.bits .andNot .u64 ((rd_T57 y210 (ji47)).f1) (ji53)) (ji55)⟩ : S57)) := ⟨_, rfl⟩
                 replace H : (span_Edits.l0 k1 l0 a1 y214 l2 (l2.length : Int) (wrap64 (x21_1 + 1))) = some (r1, r2) := by first | (rw [hy214]; with_reducible exact H) | (have H2_ := (Option.bind_some _ _).symm.trans H; rw [hy214]; with_reducible exact H2_) | (have H2_ := (Option.bind_some _ _).symm.trans H; with_reducible exact H2_) | with_reducible exact H | (rw [hy214]; exact H) | exact H
                 have Ny214 := Aside0.mk hy214
                 clear hy214
                 have H' := Aside0.mk H
                 clear H
                 have p199 : 0 ≤ (x21_1 : Int) := of_decide_eq_true (by first | (with_reducible assumption) | assumption)
                 have q199 : x21_1 < (l2.length : Int) := of_decide_eq_true (by first | (with_reducible assumption) | assumption)
                 obtain ⟨ad199, e199, hx199_0⟩ := Kd.at_int HR2.out x21_1 p199 q199
                 cases e199
                 replace hx199_0 := (HB.out.cell (World.block_lt_of_cell? w _ hx199_0)).trans hx199_0
                 replace p199 := eq_true p199
                 replace q199 := eq_true q199
                 obtain ⟨Ao57, co57, eo57⟩ := Kd.R_slice HO_8.out
                 subst eo57
                 have p206 : 0 ≤ ((ji29) : Int) := of_decide_eq_true (by first | (with_reducible assumption) | assumption)
                 have q206 : (ji29) < (x8_1.length : Int) := of_decide_eq_true (by first | (with_reducible assumption) | assumption)
                 obtain ⟨ad206, e206, hx206_0, hx206_1⟩ := at_T57 (Kd.R_reads' HO_8.out).2.2 (ji29) p206 q206
                 cases e206
                 replace p206 := eq_true p206
                 replace q206 := eq_true q206
                 have p209 : 0 ≤ ((ji43) : Int) := of_decide_eq_true (by first | (with_reducible assumption) | assumption)
                 have q209 : (ji43) < (l0.length : Int) := of_decide_eq_true (by first | (with_reducible assumption) | assumption)
                 obtain ⟨ad209, e209, hx209_0⟩ := Kd.at_int HR0.out (ji43) p209 q209
                 cases e209
                 replace hx209_0 := (HB.out.cell (World.block_lt_of_cell? w _ hx209_0)).trans hx209_0
                 replace p209 := eq_true p209
                 replace q209 := eq_true q209
                 try go_wp2_with (first | ((with_reducible refine gate_builtin (b := .append) (xs := #[.tmp 44, .tmp 53]) rfl ?_); (try (refine gate_guard (by rfl) ?_; dsimp only)); at_builtin; refine Kd.R_append k57 (w0 := w) w.heap.size rfl (.tmp 44) (.tmp 53) 28 57 (.agg #[(.int .i64 0), (.int .u64 0)]) 16 rfl Try.underlying28 info57 rfl (by decide) (by omega) (.slice (some ad206) x8_1.length co57) x8_1 (⟨ji43, rd l0 (ji43)⟩ : S57) [.int .i64 ji43, .int .u64 (rd l0 (ji43))] (fun _ => True) (fun _ => False) rfl rfl ?aP (fun _ hk => hk.elim) ?aF ?aO ?aB ?aS ?aL ?_; (case aP => exact k57_mkM _ _ _ (⟨ji43, rd l0 (ji43)⟩ : S57)); (case aB => exact (by repeat (first | (with_reducible first | exact HB.out | apply below_alloc | apply pw_below_drewN | apply below_drew1) | exact HB.out))); (case aF => exact (fun _ _ => trivial)); (case aO => exact (by (with_reducible repeat (first | apply Kd.R_alloc | apply Kd.R_drewN | apply Kd.R_drew)); exact HO_8.out)); (case aS => exact (below_size (by repeat (first | (with_reducible first | exact HB.out | apply below_alloc | apply pw_below_drewN | apply below_drew1) | exact HB.out)))); (case aL => have := LMc46.out; omega); intro v211 w58 ho hb hg hat; rw [← Ny210.out] at ho; have n0_ := Aside0.mk (hb); have n1_ := Aside0.mk (ho); clear HB; clear HO_8; have HB := n0_; have HO212 := n1_; clear n0_ n1_; clear ho hb hg hat; obtain ⟨Ao59, co59, eo59⟩ := Kd.R_slice HO212.out; subst eo59; have p50 : 0 ≤ ((ji47) : Int) := of_decide_eq_true (by first | (with_reducible assumption) | assumption); have q50 : ((ji47) : Int) < ((y210.length : Int) : Int) := of_decide_eq_true (by first | (with_reducible assumption) | assumption); obtain ⟨go50, co50, eo50, gb50, gl50, cl50, HG50⟩ := Kd.R_form HO212.out (by omega); (first | cases eo50 | (injection eo50 with ea_ en_ ec_; (first | subst ea_ | (injection ea_ with ea_; subst ea_)); subst ec_; clear en_)); have GB50 := Aside0.mk gb50; have GG50 := Aside0.mk HG50; clear gb50 gl50 HG50; obtain ⟨ce50, hcl50, hM50, hcc50, hfr50⟩ := Kd.R_elem HO212.out z57 ((ji47) : Int) p50 q50; obtain rfl := k57_openM hM50; have hx50_0 : w58.cell? ⟨go50, ((ji47) : Int).toNat * 2, none⟩ = some (.int .i64 ((rd_T57 y210 (ji47)).f0)) := hcc50 0 _ rfl; have hx50_1 : w58.cell? ⟨go50, ((ji47) : Int).toNat * 2 + 1, none⟩ = some (.int .u64 ((rd_T57 y210 (ji47)).f1)) := hcc50 1 _ rfl; have hf50_0 : w58.frozen? ⟨go50, ((ji47) : Int).toNat * 2, none⟩ = false := hfr50 0; have hf50_1 : w58.frozen? ⟨go50, ((ji47) : Int).toNat * 2 + 1, none⟩ = false := hfr50 1; clear hcl50 hcc50 hfr50 hM50; replace p50 := eq_true p50; replace q50 := eq_true q50))
                 have n0_ := Aside0.mk (Kd.R_drew HO212.out)
                 have n1_ := Aside0.mk (below_drew1 HB.out)
                 clear HO212
                 clear HB
                 have HO212 := n0_
                 have HB := n1_
                 clear n0_ n1_
                 have p213 : 0 ≤ ((ji47) : Int) := of_decide_eq_true (by first | (with_reducible assumption) | assumption)
                 have q213 : (ji47) < (y210.length : Int) := of_decide_eq_true (by first | (with_reducible assumption) | assumption)
                 obtain ⟨ad213, e213, hx213_0, hx213_1⟩ := at_T57 (Kd.R_reads' HO212.out).2.2 (ji47) p213 q213
                 obtain rfl : (⟨go50, 0, none⟩ : Addr) = ad213 := (by injection e213)
                 (first | simp only [add_plain] at hx213_0 | simp only [add_at] at hx213_0 | simp only [Addr.add, Nat.zero_add] at hx213_0 | skip)
                 (first | simp only [add_plain] at hx213_1 | simp only [add_at] at hx213_1 | simp only [Addr.add, Nat.zero_add] at hx213_1 | skip)
                 replace p213 := eq_true p213
                 replace q213 := eq_true q213
                 have p56 : 0 ≤ ((ji47) : Int) := of_decide_eq_true (by first | (with_reducible assumption) | assumption)
                 have q56 : ((ji47) : Int) < ((y210.length : Int) : Int) := of_decide_eq_true (by first | (with_reducible assumption) | assumption)
                 obtain ⟨ce56, hcl56, hM56, hcc56, hfr56⟩ := Kd.R_elem HO212.out z57 ((ji47) : Int) p56 q56
                 obtain rfl := k57_openM hM56
                 have hx56_0 : World.cell? _ ⟨go50, ((ji47) : Int).toNat * 2, none⟩ = some (.int .i64 ((rd_T57 y210 (ji47)).f0)) := hcc56 0 _ rfl
                 have hx56_1 : World.cell? _ ⟨go50, ((ji47) : Int).toNat * 2 + 1, none⟩ = some (.int .u64 ((rd_T57 y210 (ji47)).f1)) := hcc56 1 _ rfl
                 have hf56_0 : World.frozen? _ ⟨go50, ((ji47) : Int).toNat * 2, none⟩ = false := hfr56 0
                 have hf56_1 : World.frozen? _ ⟨go50, ((ji47) : Int).toNat * 2 + 1, none⟩ = false := hfr56 1
                 clear hcl56 hcc56 hfr56 hM56
                 replace p56 := eq_true p56
                 replace q56 := eq_true q56
                 obtain ⟨ce61, hcl61, hM61, hcc61, hfr61⟩ := Kd.R_elem HO212.out z57 ((ji47) : Int) (of_decide_eq_true (by first | (with_reducible assumption) | assumption)) (by have h_ : ((ji47) : Int) < ((y210.length : Int) : Int) := of_decide_eq_true (by first | (with_reducible assumption) | assumption); first | exact h_ | (have e_ := (Kd.R_reads' HO212.out).1; omega) | simpa using h_)
                 obtain rfl := k57_openM hM61
                 have HP61 := (Kd.R_seg HO212.out ((ji47) : Int) (of_decide_eq_true (by first | (with_reducible assumption) | assumption)) (by have h_ : ((ji47) : Int) < ((y210.length : Int) : Int) := of_decide_eq_true (by first | (with_reducible assumption) | assumption); first | exact h_ | (have e_ := (Kd.R_reads' HO212.out).1; omega) | simpa using h_) (seg := [.int .u64 (Go.bits .or .u64 (Go.bits .andNot .u64 ((rd_T57 y210 (ji47)).f1) (ji53)) (ji55))]) (j := 1) hcl61 hcc61 (show 2 ≤ 2 from by decide) (x' := (⟨(rd_T57 y210 (ji47)).f0, Go.bits .or .u64 (Go.bits .andNot .u64 ((rd_T57 y210 (ji47)).f1) (ji53)) (ji55)⟩ : S57)) (k57_mkM _ _ _ (⟨(rd_T57 y210 (ji47)).f0, Go.bits .or .u64 (Go.bits .andNot .u64 ((rd_T57 y210 (ji47)).f1) (ji53)) (ji55)⟩ : S57) ) (fun _ hk => hk)).1
                 rw [← Ny214.out] at HP61
                 have HQ61 := Aside0.mk HP61
                 clear hcl61 hcc61 hfr61 hM61 HP61
                 refine start_ (n := 20) (S := fun w' => w'.cell? ⟨go50, ((ji47)).toNat * 2, none⟩ = some (.int .i64 ((rd_T57 y210 (ji47)).f0)) ∧ w'.cell? ⟨go50, ((ji47)).toNat * 2 + 1, none⟩ = some (.int .u64 ((rd_T57 y210 (ji47)).f1))) (ds := [19]) (onA 20 0) (by kernel_rfl) rfl rfl ⟨hx213_0, hx213_1⟩ (fun hHeld => ?_); refine with_tabW span_Edits.tab11 span_Edits.bits11 (fun HT_ HW_ => ?_)
                 generalize w58.drew = w60 at HO212 HB HQ61 hf56_0 hf56_1 hx213_0 hx213_1 hx56_0 hx56_1 hHeld ⊢
                 refine pure_ (i := 0) (N := some 60) (v := ?_) (a' := ?_) (onA 20 1) rfl rfl (any_of HT_.out (by kernel_rfl)) (fun _ _ _ h => h) (Or.inl ⟨by rfl, ?_⟩) ?_ ?_
                 rotate_left
                 ·
                  intro w'
                  go_simp
                  with_reducible rfl
                 rotate_left
                 ·
                  simp only [Act.put, List.setIfInBounds_toArray, List.set_cons_zero, List.set_cons_succ, i64_w, i32_w]
                  rfl
                 refine pure_ (i := 1) (N := some 61) (v := ?_) (a' := ?_) (onA 20 2) rfl rfl (any_of HT_.out (by kernel_rfl)) (fun _ _ _ h => h) (Or.inl ⟨by rfl, ?_⟩) ?_ ?_
                 rotate_left
                 ·
                  intro w'
                  go_simp
                  with_reducible rfl
                 rotate_left
                 ·
                  simp only [Act.put, List.setIfInBounds_toArray, List.set_cons_zero, List.set_cons_succ, i64_w, i32_w]
                  rfl
                 refine pure_ (i := 2) (N := some 62) (v := ?_) (a' := ?_) (onA 20 3) rfl rfl (any_of HT_.out (by kernel_rfl)) (fun _ _ _ h => h) (Or.inl ⟨by rfl, ?_⟩) ?_ ?_
                 rotate_left
                 ·
                  intro w'
                  go_simp
                  with_reducible rfl
                 rotate_left
                 ·
                  simp only [Act.put, List.setIfInBounds_toArray, List.set_cons_zero, List.set_cons_succ, i64_w, i32_w]
                  rfl
                 refine pure_ (i := 3) (N := some 63) (v := ?_) (a' := ?_) (onA 20 4) rfl rfl (any_of HT_.out (by kernel_rfl)) (fun _ _ _ h => h) (Or.inl ⟨by rfl, ?_⟩) ?_ ?_
                 rotate_left
                 ·
                  intro w'
                  go_simp
                  with_reducible rfl
                 rotate_left
                 ·
                  simp only [Act.put, List.setIfInBounds_toArray, List.set_cons_zero, List.set_cons_succ, i64_w, i32_w]
                  rfl
                 refine pure_ (i := 5) (N := some 65) (v := ?_) (a' := ?_) #[tt_, tt_, tt_, tt_, ff_, tt_, ff_, ff_, ff_, ff_, ff_, ff_, ff_, ff_, ff_, ff_, ff_, ff_, ff_, ff_] rfl rfl (any_of HT_.out (by kernel_rfl)) (fun _ _ _ h => h) (Or.inl ⟨by rfl, ?_⟩) ?_ ?_
                 rotate_left
                 ·
                  intro w'
                  go_simp
                  with_reducible rfl
                 rotate_left
                 ·
                  simp only [Act.put, List.setIfInBounds_toArray, List.set_cons_zero, List.set_cons_succ, i64_w, i32_w]
                  rfl
                 refine pure_ (i := 6) (N := some 66) (v := ?_) (a' := ?_) #[tt_, tt_, tt_, tt_, ff_, tt_, tt_, ff_, ff_, ff_, ff_, ff_, ff_, ff_, ff_, ff_, ff_, ff_, ff_, ff_] rfl rfl (any_of HT_.out (by kernel_rfl)) (fun _ _ _ h => h) (Or.inl ⟨by rfl, ?_⟩) ?_ ?_
                 rotate_left
                 ·
                  intro w'
                  go_simp
                  with_reducible rfl
                 rotate_left
                 ·
                  simp only [Act.put, List.setIfInBounds_toArray, List.set_cons_zero, List.set_cons_succ, i64_w, i32_w]
                  rfl
                 refine pure_ (i := 7) (N := some 67) (v := ?_) (a' := ?_) #[tt_, tt_, tt_, tt_, ff_, tt_, tt_, tt_, ff_, ff_, ff_, ff_, ff_, ff_, ff_, ff_, ff_, ff_, ff_, ff_] rfl rfl (any_of HT_.out (by kernel_rfl)) (fun _ _ _ h => h) (Or.inl ⟨by rfl, ?_⟩) ?_ ?_
                 rotate_left
                 ·
                  intro w'
                  go_simp
                  with_reducible rfl
                 rotate_left
                 ·
                  simp only [Act.put, List.setIfInBounds_toArray, List.set_cons_zero, List.set_cons_succ, i64_w, i32_w]
                  rfl
                 refine pure_ (i := 8) (N := some 68) (v := ?_) (a' := ?_) #[tt_, tt_, tt_, tt_, ff_, tt_, tt_, tt_, tt_, ff_, ff_, ff_, ff_, ff_, ff_, ff_, ff_, ff_, ff_, ff_] rfl rfl (any_of HT_.out (by kernel_rfl)) (fun _ _ _ h => h) (Or.inl ⟨by rfl, ?_⟩) ?_ ?_
                 rotate_left
                 ·
                  intro w'
                  go_simp
                  with_reducible rfl
                 rotate_left
                 ·
                  simp only [Act.put, List.setIfInBounds_toArray, List.set_cons_zero, List.set_cons_succ, i64_w, i32_w]
                  rfl
                 refine pure_ (i := 10) (N := some 70) (v := ?_) (a' := ?_) #[tt_, tt_, tt_, tt_, ff_, tt_, tt_, tt_, tt_, ff_, tt_, ff_, ff_, ff_, ff_, ff_, ff_, ff_, ff_, ff_] rfl rfl (any_of HT_.out (by kernel_rfl)) (fun _ _ _ h => h) (Or.inl ⟨by rfl, ?_⟩) ?_ ?_
                 rotate_left
                 ·
                  intro w'
                  go_simp
                  with_reducible rfl
                 rotate_left
                 ·
                  simp only [Act.put, List.setIfInBounds_toArray, List.set_cons_zero, List.set_cons_succ, i64_w, i32_w]
                  rfl
                 refine pure_ (i := 11) (N := some 71) (v := ?_) (a' := ?_) #[tt_, tt_, tt_, tt_, ff_, tt_, tt_, tt_, tt_, ff_, tt_, tt_, ff_, ff_, ff_, ff_, ff_, ff_, ff_, ff_] rfl rfl (any_of HT_.out (by kernel_rfl)) (fun _ _ _ h => h) (Or.inl ⟨by rfl, ?_⟩) ?_ ?_
                 rotate_left
                 ·
                  intro w'
                  go_simp
                  with_reducible rfl
                 rotate_left
                 ·
                  simp only [Act.put, List.setIfInBounds_toArray, List.set_cons_zero, List.set_cons_succ, i64_w, i32_w]
                  rfl
                 refine pure_ (i := 12) (N := some 72) (v := ?_) (a' := ?_) #[tt_, tt_, tt_, tt_, ff_, tt_, tt_, tt_, tt_, ff_, tt_, tt_, tt_, ff_, ff_, ff_, ff_, ff_, ff_, ff_] rfl rfl (any_of HT_.out (by kernel_rfl)) (fun _ _ _ h => h) (Or.inl ⟨by rfl, ?_⟩) ?_ ?_
                 rotate_left
                 ·
                  intro w'
                  go_simp
                  with_reducible rfl
                 rotate_left
                 ·
                  simp only [Act.put, List.setIfInBounds_toArray, List.set_cons_zero, List.set_cons_succ, i64_w, i32_w]
                  rfl
                 refine pure_ (i := 13) (N := some 73) (v := ?_) (a' := ?_) #[tt_, tt_, tt_, tt_, ff_, tt_, tt_, tt_, tt_, ff_, tt_, tt_, tt_, tt_, ff_, ff_, ff_, ff_, ff_, ff_] rfl rfl (any_of HT_.out (by kernel_rfl)) (fun _ _ _ h => h) (Or.inl ⟨by rfl, ?_⟩) ?_ ?_
                 rotate_left
                 ·
                  intro w'
                  go_simp
                  with_reducible rfl
                 rotate_left
                 ·
                  simp only [Act.put, List.setIfInBounds_toArray, List.set_cons_zero, List.set_cons_succ, i64_w, i32_w]
                  rfl
                 refine pure_ (i := 14) (N := some 74) (v := ?_) (a' := ?_) #[tt_, tt_, tt_, tt_, ff_, tt_, tt_, tt_, tt_, ff_, tt_, tt_, tt_, tt_, tt_, ff_, ff_, ff_, ff_, ff_] rfl rfl (any_of HT_.out (by kernel_rfl)) (fun _ _ _ h => h) (Or.inl ⟨by rfl, ?_⟩) ?_ ?_
                 rotate_left
                 ·
                  intro w'
                  go_simp
                  with_reducible rfl
                 rotate_left
                 ·
                  simp only [Act.put, List.setIfInBounds_toArray, List.set_cons_zero, List.set_cons_succ, i64_w, i32_w]
                  rfl
                 refine pure_ (i := 15) (N := some 75) (v := ?_) (a' := ?_) #[tt_, tt_, tt_, tt_, ff_, tt_, tt_, tt_, tt_, ff_, tt_, tt_, tt_, tt_, tt_, tt_, ff_, ff_, ff_, ff_] rfl rfl (any_of HT_.out (by kernel_rfl)) (fun _ _ _ h => h) (Or.inl ⟨by rfl, ?_⟩) ?_ ?_
                 rotate_left
                 ·
                  intro w'
                  go_simp
                  with_reducible rfl
                 rotate_left
                 ·
                  simp only [Act.put, List.setIfInBounds_toArray, List.set_cons_zero, List.set_cons_succ, i64_w, i32_w]
                  rfl
                 refine take_ (i := 4) (N := some 64) (v := ?_) (a' := ?_) #[tt_, tt_, tt_, tt_, tt_, tt_, tt_, tt_, tt_, ff_, tt_, tt_, tt_, tt_, tt_, tt_, ff_, ff_, ff_, ff_] rfl rfl (take_ofW HT_.out HW_.out (by kernel_rfl)) (fun _ _ _ h => h) (Or.inl ⟨by rfl, ?_⟩) hHeld ?_ ?_
                 rotate_left
                 ·
                  rintro w' ⟨s0, s1⟩
                  go_simp
                  with_reducible rfl
                 rotate_left
                 ·
                  simp only [Act.put, List.setIfInBounds_toArray, List.set_cons_zero, List.set_cons_succ, i64_w, i32_w]
                  rfl
                 refine pure_ (i := 9) (N := some 69) (v := ?_) (a' := ?_) (onA 20 16) rfl rfl (any_of HT_.out (by kernel_rfl)) (fun _ _ _ h => h) (Or.inl ⟨by rfl, ?_⟩) ?_ ?_
                 rotate_left
                 ·
                  intro w'
                  go_simp
                  with_reducible rfl
                 rotate_left
                 ·
                  simp only [Act.put, List.setIfInBounds_toArray, List.set_cons_zero, List.set_cons_succ, i64_w, i32_w]
                  rfl
                 refine pure_ (i := 16) (N := some 76) (v := ?_) (a' := ?_) (onA 20 17) rfl rfl (any_of HT_.out (by kernel_rfl)) (fun _ _ _ h => h) (Or.inl ⟨by rfl, ?_⟩) ?_ ?_
                 rotate_left
                 ·
                  intro w'
                  go_simp
                  with_reducible rfl
                 rotate_left
                 ·
                  simp only [Act.put, List.setIfInBounds_toArray, List.set_cons_zero, List.set_cons_succ, i64_w, i32_w]
                  rfl
                 refine pure_ (i := 17) (N := some 77) (v := ?_) (a' := ?_) (onA 20 18) rfl rfl (any_of HT_.out (by kernel_rfl)) (fun _ _ _ h => h) (Or.inl ⟨by rfl, ?_⟩) ?_ ?_
                 rotate_left
                 ·
                  intro w'
                  go_simp
                  with_reducible rfl
                 rotate_left
                 ·
                  simp only [Act.put, List.setIfInBounds_toArray, List.set_cons_zero, List.set_cons_succ, i64_w, i32_w]
                  rfl
                 refine pure_ (i := 18) (N := some 78) (v := ?_) (a' := ?_) (onA 20 19) rfl rfl (any_of HT_.out (by kernel_rfl)) (fun _ _ _ h => h) (Or.inl ⟨by rfl, ?_⟩) ?_ ?_
                 rotate_left
                 ·
                  intro w'
                  go_simp
                  with_reducible rfl
                 rotate_left
                 ·
                  simp only [Act.put, List.setIfInBounds_toArray, List.set_cons_zero, List.set_cons_succ, i64_w, i32_w]
                  rfl
                 refine last_ (i := 19) (N := none) (onA 20 20) rfl rfl (one_of HT_.out (by kernel_rfl)) (by decide) (fun K hK => ?_)
                 refine skip_ (w1 := ?_) (by rfl) rfl ?_ ?_
                 rotate_left
                 ·
                  go_simp
                  rfl
                 refine hK.out _ _ ?_
                 clear hK K
                 refine done_ (done_of HT_.out (by kernel_rfl)) ?_
                 try go_wp2
                 go_roundg k1
                 case measure => have := HK1.out; omega
                 case rel => exact ⟨(y214), (wrap64 (x21_1 + 1)), (by first | rfl | (simp; done) | (simp [*]; done)), (by first | exact H' | ((try rw [hji10]); (try rw [hji14]); (try rw [hji18]); (try rw [hji20]); (try rw [hji22]); (try rw [hji29]); (try rw [hji34]); (try rw [hji36]); (try rw [hji38]); (try rw [hji43]); (try rw [hji47]); (try rw [hji51]); (try rw [hji53]); (try rw [hji55]); exact H')), ⟨by have := HK1.out; omega⟩, ⟨by (with_reducible repeat (first | apply Kd.R_alloc | apply Kd.R_drewN | apply Kd.R_drew)); exact HQ61.out⟩, ⟨by repeat (first | (with_reducible first | exact HB.out | apply below_alloc | apply pw_below_drewN | apply below_drew1 | refine below_set ?_ GB50.out) | exact HB.out)⟩⟩
                ·
                 rw [if_neg c52] at H
                 exact absurd H (by simp)
               ·
                rw [if_neg c49] at H
                exact absurd H (by simp)
              ·
               rw [if_neg c48] at H
               exact absurd H (by simp)
             ·
              rw [if_neg c46] at H
              exact absurd H (by simp)
            ·
             rw [if_neg c45] at H
             exact absurd H (by simp)
           ·
            rw [if_neg c44] at H
            exact absurd H (by simp)
         ·
          rw [if_neg c31] at H
          exact absurd H (by simp)
        ·
         rw [if_neg c30] at H
         exact absurd H (by simp)
      ·
       rw [if_neg c8] at H
       exact absurd H (by simp)
     ·
      rw [if_neg c7] at H
      exact absurd H (by simp)
    ·
     rw [if_neg c6] at H
     have c6b0 : decide (x21_1 < (l2.length : Int)) = false := decide_eq_false c6
     clear c6
     simp only [Option.some.injEq, Prod.mk.injEq] at H
     obtain ⟨rfl, rfl⟩ := H
     go_wp2
     go_ret2
     exact ⟨_, by first | rfl | (simp [errW_none, errW_some] <;> rfl) | (simp [*, errW_none, errW_some] <;> rfl), by (with_reducible repeat (first | apply Kd.R_alloc | apply Kd.R_drewN | apply Kd.R_drew)); exact HO_8.out, by repeat (first | (with_reducible first | exact HB.out | apply below_alloc | apply pw_below_drewN | apply below_drew1) | exact HB.out)⟩
 ·
  replace c5 := Bool.eq_false_iff.mpr c5
  subst c5
  have H1 : (some (([] : List (S57)), false)) = some (r1, r2) := by rw [if_neg (show ¬ (false = true) by decide)] at H; exact H
  clear H
  have H := H1
  clear H1
  simp only [Option.some.injEq, Prod.mk.injEq] at H
  obtain ⟨rfl, rfl⟩ := H
  go_enter Try.func33, Try.ntmps33
  go_wp2_with (first | ((with_reducible refine gate_callee (f := 45) rfl ?_); refine goesL_ (some 17) rfl rfl Try.func45 (by kernel_rfl) rfl #[.slice A0 l0.length c0, .int .i64 a1, .int .i64 (l2.length : Int)] rfl (by (try simp only [List.map_toArray, List.map_cons, List.map_nil]); first | done | rfl | (simp only [List.length_drop, List.length_take]; rfl)) ?_; (with_reducible refine (span_within.calls _ _ l0 a1 (l2.length : Int) false _ ?side1 ?side2 A4.out).mono ?_); (case side1 => repeat (first | exact HR0.out | (with_reducible refine Kd.C_alloc ?_ _) | (with_reducible refine Kd.C_drewN ?_ _) | (with_reducible refine Kd.C_drew ?_))); (case side2 => exact HC0.out); rintro e w' ⟨rfl, ⟨nd, rfl⟩⟩; refine ⟨_, rfl, ?_⟩))
  go_ret2
  exact ⟨_, by first | rfl | (simp [errW_none, errW_some] <;> rfl) | (simp [*, errW_none, errW_some] <;> rfl), by first | exact Kd.R_nil _ _ _ _ _ | exact Kd.N_nil _ _ _ _ _ | exact Kd.V_nil _ _ _ _ _ | exact Kd.Q_nil _ _ _ _ _ | exact Kd.S_nil _ _ _ _ _, by repeat (first | (with_reducible first | exact HB.out | apply below_alloc | apply pw_below_drewN | apply below_drew1) | exact HB.out)⟩

end Go.Proofs.Ytglekonhdjploab.XImageFills
