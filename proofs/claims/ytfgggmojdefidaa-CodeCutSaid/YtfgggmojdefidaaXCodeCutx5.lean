-- Laid by this session's own printer (wip/xprint.py): each Go function that the law reaches as a plain Lean function, and that the call comes to it.
import Derived.Test.YtfgggmojdefidaaXCodeCutx0
import Derived.Test.YtfgggmojdefidaaXCodeCutx3
import Derived.Test.YtfgggmojdefidaaXCodeCutx4
namespace Go.Proofs.Ytfgggmojdefidaa.XCodeCut
open Go.RowKit Go.Proofs.YtfgggmojdefidaaW.PrintWords Go.Proofs.YtfgggmojdefidaaW.PrintLast Go.Proofs.YtfgggmojdefidaaW.PrintMore
attribute [local go_sem] max2_int min2_int max_two min_two max_three min_three max_four min_four   -- for this text's walks alone
set_option linter.unusedVariables false
set_option linter.unusedSimpArgs false

/-! ### darninglaw23_CodeCut: function 7 -/
mutual
def darninglaw23_CodeCut.l0 : Nat → List (S26) → List (S26) → Int → Int → Option (Bool)
  | 0, _, _, _, _ => none
  | k + 1, x6, x7, x33, x34 => if x34 < x33 then (if 0 ≤ x34 then (if x34 < (x6.length : Int) then (if x34 < (x7.length : Int) then ((darningref4_SameOp.f ((rd_T26 x6 x34).f0) ((rd_T26 x6 x34).f1) ((rd_T26 x6 x34).f2) ((rd_T26 x6 x34).f3) ((rd_T26 x6 x34).f4) ((rd_T26 x7 x34).f0) ((rd_T26 x7 x34).f1) ((rd_T26 x7 x34).f2) ((rd_T26 x7 x34).f3) ((rd_T26 x7 x34).f4)).bind fun t209 => (if t209 = true then (darninglaw23_CodeCut.j1 k x6 x7 x33 x34) else (if x34 = (wrap64 ((x7.length : Int) - 1)) then (if ((rd_T26 x7 x34).f0) = 4 then (if ((rd_T26 x6 x34).f0) = 4 then (if (((rd_T26 x7 x34).f4).length : Int) ≥ (((rd_T26 x6 x34).f4).length : Int) then (some false) else (if 0 ≤ (((rd_T26 x7 x34).f4).length : Int) then (if (((rd_T26 x7 x34).f4).length : Int) ≤ (((rd_T26 x6 x34).f4).length : Int) then (if (strOfNums (((rd_T26 x6 x34).f4).take ((((rd_T26 x7 x34).f4).length : Int) : Int).toNat)).toList = (strOfNums ((rd_T26 x7 x34).f4)).toList then (darninglaw23_CodeCut.j1 k x6 x7 x33 x34) else (some false)) else (none)) else (none))) else (some false)) else (some false)) else (some false)))) else (none)) else (none)) else (none)) else ((darninglaw23_awake.f k).bind fun t221 => (some t221))
def darninglaw23_CodeCut.j1 : Nat → List (S26) → List (S26) → Int → Int → Option (Bool)
  | 0, _, _, _, _ => none
  | k + 1, x6, x7, x33, x34 => darninglaw23_CodeCut.l0 k x6 x7 x33 (wrap64 (x34 + 1))
end
def darninglaw23_CodeCut.f (k : Nat) (l0 : List Int) (a1 : Int) : Option (Bool) := if (l0.length : Int) > 600 then ((darninglaw23_awake.f k).bind fun t199 => (some t199)) else (if (IntKind.u64.wrap (wrap64 ((l0.length : Int) + 1))) = 0 then (none) else ((code_Decode.f k l0).bind fun t200 => (if 0 ≤ (wrap64 (Int.tmod (IntKind.u64.wrap (a1)) (IntKind.u64.wrap (wrap64 ((l0.length : Int) + 1))))) then (if (wrap64 (Int.tmod (IntKind.u64.wrap (a1)) (IntKind.u64.wrap (wrap64 ((l0.length : Int) + 1))))) ≤ (l0.length : Int) then ((code_Decode.f k (l0.take ((wrap64 (Int.tmod (IntKind.u64.wrap (a1)) (IntKind.u64.wrap (wrap64 ((l0.length : Int) + 1))))) : Int).toNat)).bind fun t204 => (if (t204.length : Int) > (t200.length : Int) then (some false) else (darninglaw23_CodeCut.l0 k t200 t204 (t204.length : Int) 0))) else (none)) else (none))))
theorem darninglaw23_CodeCut.mono_l : ∀ k, (∀ y0 y1 y2 y3, LeO (darninglaw23_CodeCut.l0 k y0 y1 y2 y3) (darninglaw23_CodeCut.l0 (k + 1) y0 y1 y2 y3)) ∧ (∀ y0 y1 y2 y3, LeO (darninglaw23_CodeCut.j1 k y0 y1 y2 y3) (darninglaw23_CodeCut.j1 (k + 1) y0 y1 y2 y3))
  | 0 => ⟨fun _ _ _ _ r h => by simp [darninglaw23_CodeCut.l0] at h, fun _ _ _ _ r h => by simp [darninglaw23_CodeCut.j1] at h⟩
  | k + 1 => by
    obtain ⟨ih0, ih1⟩ := darninglaw23_CodeCut.mono_l k
    refine ⟨?_, ?_⟩
    · intro y0 y1 y2 y3
      unfold darninglaw23_CodeCut.l0
      repeat' first
      | (with_reducible exact ih0 _ _ _ _)
      | (with_reducible exact ih1 _ _ _ _)
      | (with_reducible exact code_Decode.mono _ _)
      | (with_reducible exact darninglaw23_awake.mono _)
      | (with_reducible exact LeO.refl _)
      | (with_reducible exact LeO.none _)
      | (with_reducible refine LeO.ite ?_ ?_)
      | (with_reducible refine LeO.bind ?_ (fun _ => ?_))
      | exact ih0 _ _ _ _
      | exact ih1 _ _ _ _
      | exact code_Decode.mono _ _
      | exact darninglaw23_awake.mono _
      | exact LeO.none _
      | refine LeO.ite ?_ ?_
      | refine LeO.bind ?_ (fun _ => ?_)
    · intro y0 y1 y2 y3
      unfold darninglaw23_CodeCut.j1
      repeat' first
      | (with_reducible exact ih0 _ _ _ _)
      | (with_reducible exact ih1 _ _ _ _)
      | (with_reducible exact code_Decode.mono _ _)
      | (with_reducible exact darninglaw23_awake.mono _)
      | (with_reducible exact LeO.refl _)
      | (with_reducible exact LeO.none _)
      | (with_reducible refine LeO.ite ?_ ?_)
      | (with_reducible refine LeO.bind ?_ (fun _ => ?_))
      | exact ih0 _ _ _ _
      | exact ih1 _ _ _ _
      | exact code_Decode.mono _ _
      | exact darninglaw23_awake.mono _
      | exact LeO.none _
      | refine LeO.ite ?_ ?_
      | refine LeO.bind ?_ (fun _ => ?_)
theorem darninglaw23_CodeCut.mono : ∀ a0 a1 k, LeO (darninglaw23_CodeCut.f k a0 a1) (darninglaw23_CodeCut.f (k + 1) a0 a1) := by
  intro a0 a1 k
  obtain ⟨ih0, ih1⟩ := darninglaw23_CodeCut.mono_l k
  unfold darninglaw23_CodeCut.f
  repeat' first
      | (with_reducible exact ih0 _ _ _ _)
      | (with_reducible exact ih1 _ _ _ _)
      | (with_reducible exact code_Decode.mono _ _)
      | (with_reducible exact darninglaw23_awake.mono _)
      | (with_reducible exact LeO.refl _)
      | (with_reducible exact LeO.none _)
      | (with_reducible refine LeO.ite ?_ ?_)
      | (with_reducible refine LeO.bind ?_ (fun _ => ?_))
      | exact ih0 _ _ _ _
      | exact ih1 _ _ _ _
      | exact code_Decode.mono _ _
      | exact darninglaw23_awake.mono _
      | exact LeO.none _
      | refine LeO.ite ?_ ?_
      | refine LeO.bind ?_ (fun _ => ?_)
def darninglaw23_CodeCut.T4 : Bool × List (List Nat × List Nat) := (true, [([], []), ([0], [0]), ([], []), ([], []), ([2, 3], [2, 3]), ([4, 1], [4]), ([1, 5, 0, 1], [1]), ([5, 6, 0, 1, 2, 3, 4, 5, 6], [5])])
def darninglaw23_CodeCut.B4 : List Nat := [0, 1, 0, 0, 12, 31, 63, 127]
theorem darninglaw23_CodeCut.tab4 : rtab .any (opsOf Try.f7 4) = darninglaw23_CodeCut.T4 := by kernel_rfl
theorem darninglaw23_CodeCut.bits4 : waitsOk darninglaw23_CodeCut.T4.2 darninglaw23_CodeCut.B4 = true := by kernel_rfl
def darninglaw23_CodeCut.T10 : Bool × List (List Nat × List Nat) := (true, [([], []), ([], []), ([0, 1], [0, 1]), ([2], [2]), ([], []), ([], []), ([4, 5], [4, 5]), ([6], [6]), ([3, 7], [3, 7])])
def darninglaw23_CodeCut.B10 : List Nat := [0, 0, 3, 7, 0, 0, 48, 112, 255]
theorem darninglaw23_CodeCut.tab10 : rtab .any (opsOf Try.f7 10) = darninglaw23_CodeCut.T10 := by kernel_rfl
theorem darninglaw23_CodeCut.bits10 : waitsOk darninglaw23_CodeCut.T10.2 darninglaw23_CodeCut.B10 = true := by kernel_rfl
def darninglaw23_CodeCut.T11 : Bool × List (List Nat × List Nat) := (true, [([], []), ([], []), ([1], [1]), ([2], [2]), ([0, 3], [0, 3]), ([4], [4]), ([5], [5]), ([5], [5]), ([6, 7, 5], [5, 6, 7]), ([8, 5], [5, 8]), ([9, 5], [5, 9]), ([10, 5], [5, 10]), ([5, 11], [5, 11]), ([12, 5], [12]), ([13], [13]), ([13], [13]), ([14, 15, 13], [13, 14, 15]), ([16, 13], [13, 16]), ([17, 13], [13, 17]), ([18, 13], [13, 18]), ([13, 19], [13, 19]), ([20, 13], [20]), ([21], [21]), ([21], [21]), ([22, 23, 21], [21, 22, 23]), ([24, 21], [21, 24]), ([25, 21], [21, 25]), ([26, 21], [21, 26]), ([21], [21]), ([21], [21]), ([28, 29, 21], [21, 28, 29]), ([30, 21], [21, 30]), ([31, 21], [21, 31]), ([32, 21], [21, 32]), ([27, 33, 21], [21, 27, 33]), ([21, 34], [21, 34]), ([35, 21], [35]), ([36], [36]), ([36], [36]), ([37, 38, 36], [36, 37, 38]), ([39, 36], [36, 39]), ([40, 36], [36, 40]), ([36], [36]), ([36], [36]), ([42, 43, 36], [36, 42, 43]), ([44, 36], [36, 44]), ([45, 36], [36, 45]), ([46, 36], [36, 46]), ([41, 47, 36], [36, 41, 47]), ([48, 36], [36, 48]), ([36], [36]), ([36], [36]), ([50, 51, 36], [36, 50, 51]), ([52, 36], [36, 52]), ([53, 36], [36, 53]), ([54, 36], [36, 54]), ([49, 55, 36], [36, 49, 55]), ([36, 56], [36, 56])])
def darninglaw23_CodeCut.B11 : List Nat := [0, 0, 2, 6, 15, 31, 63, 63, 255, 511, 1023, 2047, 4095, 8191, 16383, 16383, 65535, 131071, 262143, 524287, 1048575, 2097151, 4194303, 4194303, 16777215, 33554431, 67108863, 134217727, 4194303, 4194303, 809500671, 1883242495, 4030726143, 8325693439, 17179869183, 34359738367, 68719476735, 137438953471, 137438953471, 549755813887, 1099511627775, 2199023255551, 137438953471, 137438953471, 13331578486783, 30923764531199, 66108136620031, 136476880797695, 281474976710655, 562949953421311, 137438953471, 137438953471, 3377837159481343, 7881436786851839, 16888636041592831, 34903034551074815, 72057594037927935, 144115188075855871]
theorem darninglaw23_CodeCut.tab11 : rtab .any (opsOf Try.f7 11) = darninglaw23_CodeCut.T11 := by kernel_rfl
theorem darninglaw23_CodeCut.bits11 : waitsOk darninglaw23_CodeCut.T11.2 darninglaw23_CodeCut.B11 = true := by kernel_rfl
set_option maxHeartbeats 80000000 in
set_option maxRecDepth 100000 in
theorem darninglaw23_CodeCut.calls (k : Nat) (A0 : Option Addr) (c0 : Nat) (l0 : List Int) (a1 : Int) (w : World) (hr0 : Kd.C (Kd.int .u8) w A0 l0.length l0) (hc0 : l0.length ≤ c0) (h : darninglaw23_CodeCut.f k l0 a1 = some true) :
    Calls Try.prog 7 #[.slice A0 l0.length c0, .int .i64 a1] w fun e w' => e = .returned (.bool true) ∧ Below w.heap.size w w' := by
  have hu26 := Try.underlying26
  have HR0 := Aside0.mk hr0
  have HC0 := Aside0.mk hc0
  clear hr0 hc0
  have HB := Aside0.mk (Below.refl w.heap.size w)
  have H : (if (l0.length : Int) > 600 then ((darninglaw23_awake.f k).bind fun t199 => (some t199)) else (if (IntKind.u64.wrap (wrap64 ((l0.length : Int) + 1))) = 0 then (none) else ((code_Decode.f k l0).bind fun t200 => (if 0 ≤ (wrap64 (Int.tmod (IntKind.u64.wrap (a1)) (IntKind.u64.wrap (wrap64 ((l0.length : Int) + 1))))) then (if (wrap64 (Int.tmod (IntKind.u64.wrap (a1)) (IntKind.u64.wrap (wrap64 ((l0.length : Int) + 1))))) ≤ (l0.length : Int) then ((code_Decode.f k (l0.take ((wrap64 (Int.tmod (IntKind.u64.wrap (a1)) (IntKind.u64.wrap (wrap64 ((l0.length : Int) + 1))))) : Int).toNat)).bind fun t204 => (if (t204.length : Int) > (t200.length : Int) then (some false) else (darninglaw23_CodeCut.l0 k t200 t204 (t204.length : Int) 0))) else (none)) else (none))))) = some true := h
  clear h
  by_cases c3 : (l0.length : Int) > 600
  · rw [if_pos c3] at H
    have c3b0 : decide (600 < (l0.length : Int)) = true := decide_eq_true c3
    have c3b1 : decide (600 < l0.length) = true := decide_eq_true (by omega)
    clear c3
    replace H := Option.bind_eq_some_iff.mp H
    obtain ⟨t199, A40, H⟩ := H
    replace H : (some t199) = some true := H
    have A4 := Aside0.mk A40
    clear A40
    as_aux_lemma =>
      obtain rfl : t199 = true := Option.some.inj H
      go_enter Try.func7, Try.ntmps7
      go_wp2_with (first | ((with_reducible refine gate_callee (f := 13) rfl ?_); refine goesL_ (some 12) rfl rfl Try.func13 (by kernel_rfl) rfl #[] rfl (by (try simp only [List.map_toArray, List.map_cons, List.map_nil]); first | done | rfl | (simp only [List.length_drop, List.length_take]; rfl)) ?_; (with_reducible refine (darninglaw23_awake.calls k  true _ A4.out).mono ?_); rintro e w5 ⟨rfl, hb⟩; refine ⟨_, rfl, ?_⟩; have n0_ := Aside0.mk (below_step (by repeat (first | (with_reducible first | exact HB.out | apply below_alloc | apply pw_below_drewN | apply below_drew1) | exact HB.out)) hb); clear HB; have HB := n0_; clear n0_; (try clear hb); (try clear hb2); (try clear hk); (try clear hi)))
      go_ret
      exact ⟨by first | rfl | (rw [HRA_.out]) | (simp only [HRA_.out]; done) | (simp only [← HRA_.out]; done) | (have HR_ := HRA_.out; simp_all) | (simp [errW_none, errW_some] <;> rfl) | (simp [*, errW_none, errW_some] <;> rfl), by repeat (first | (with_reducible first | exact HB.out | apply below_alloc | apply pw_below_drewN | apply below_drew1) | exact HB.out)⟩
  · rw [if_neg c3] at H
    have c3b0 : decide (600 < (l0.length : Int)) = false := decide_eq_false c3
    have c3b1 : decide (600 < l0.length) = false := decide_eq_false (by omega)
    clear c3
    by_cases c6 : (IntKind.u64.wrap (wrap64 ((l0.length : Int) + 1))) = 0
    · rw [if_pos c6] at H
      exact absurd H (by simp)
    · rw [if_neg c6] at H
      have c6b0 : ((IntKind.u64.wrap (wrap64 ((l0.length : Int) + 1))) == 0) = false := beq_eq_false_iff_ne.mpr c6
      have c6b1 : ((IntKind.u64.wrap (wrap64 ((l0.length : Int) + 1))) != 0) = true := bne_iff_ne.mpr c6
      replace H := Option.bind_eq_some_iff.mp H
      obtain ⟨t200, A70, H⟩ := H
      replace H : (if 0 ≤ (wrap64 (Int.tmod (IntKind.u64.wrap (a1)) (IntKind.u64.wrap (wrap64 ((l0.length : Int) + 1))))) then (if (wrap64 (Int.tmod (IntKind.u64.wrap (a1)) (IntKind.u64.wrap (wrap64 ((l0.length : Int) + 1))))) ≤ (l0.length : Int) then ((code_Decode.f k (l0.take ((wrap64 (Int.tmod (IntKind.u64.wrap (a1)) (IntKind.u64.wrap (wrap64 ((l0.length : Int) + 1))))) : Int).toNat)).bind fun t204 => (if (t204.length : Int) > (t200.length : Int) then (some false) else (darninglaw23_CodeCut.l0 k t200 t204 (t204.length : Int) 0))) else (none)) else (none)) = some true := H
      have A7 := Aside0.mk A70
      clear A70
      obtain ⟨ji8, hji8⟩ : ∃ j_ : Int, (wrap64 (Int.tmod (IntKind.u64.wrap (a1)) (IntKind.u64.wrap (wrap64 ((l0.length : Int) + 1))))) = j_ := ⟨_, rfl⟩
      replace H : (if 0 ≤ (ji8) then (if (ji8) ≤ (l0.length : Int) then ((code_Decode.f k (l0.take ((ji8) : Int).toNat)).bind fun t204 => (if (t204.length : Int) > (t200.length : Int) then (some false) else (darninglaw23_CodeCut.l0 k t200 t204 (t204.length : Int) 0))) else (none)) else (none)) = some true := by first | (rw [hji8] at H; exact H) | (simp only [hji8] at H ⊢; exact H)
      (try rw [hji8] at A7)
      have hji8w : (IntKind.i64.wrap (Int.tmod (IntKind.u64.wrap (a1)) (IntKind.u64.wrap (wrap64 ((l0.length : Int) + 1))))) = ji8 := (i64_w _).trans hji8
      by_cases c9 : 0 ≤ (ji8)
      · rw [if_pos c9] at H
        have c9b0 := eq_true c9
        have c9b1 : decide (0 ≤ (ji8)) = true := decide_eq_true c9
        clear c9
        by_cases c10 : (ji8) ≤ (l0.length : Int)
        · rw [if_pos c10] at H
          have c10b0 := eq_true c10
          have c10b1 : decide ((ji8) ≤ (l0.length : Int)) = true := decide_eq_true c10
          clear c10
          replace H := Option.bind_eq_some_iff.mp H
          obtain ⟨t204, A110, H⟩ := H
          replace H : (if (t204.length : Int) > (t200.length : Int) then (some false) else (darninglaw23_CodeCut.l0 k t200 t204 (t204.length : Int) 0)) = some true := H
          have A11 := Aside0.mk A110
          clear A110
          by_cases c12 : (t204.length : Int) > (t200.length : Int)
          · rw [if_pos c12] at H
            have c12b0 : decide ((t200.length : Int) < (t204.length : Int)) = true := decide_eq_true c12
            have c12b1 : decide (t200.length < t204.length) = true := decide_eq_true (Int.ofNat_lt.mp c12)
            clear c12
            exact absurd H (by simp)
          · rw [if_neg c12] at H
            have c12b0 : decide ((t200.length : Int) < (t204.length : Int)) = false := decide_eq_false c12
            have c12b1 : decide (t200.length < t204.length) = false := decide_eq_false (fun h => c12 (Int.ofNat_lt.mpr h))
            clear c12
            have H' := Aside0.mk H
            clear H
            go_enter Try.func7, Try.ntmps7
            try go_wp2
            have n0_ := Aside0.mk (below_drew1 HB.out)
            clear HB
            have HB := n0_
            clear n0_
            obtain ⟨i014, hi014, _, hsz14, _⟩ := info_parts info5
            obtain ⟨hcut14, hA14, hC14⟩ := print_take_of (P := Try.prog) (Value.int .u8) 0 22 5 .i64 Try.underlying22 hi014 hsz14 A0 c0 l0 (ji8) (of_decide_eq_true (by first | (with_reducible assumption) | assumption)) (of_decide_eq_true (by first | (with_reducible assumption) | assumption)) HC0.out
            have HR203 := Aside0.mk (Kd.C_of_reads (h1 := fun _ => rfl) (hA14 _ (Kd.reads_of_C HR0.out)))
            have HC203 := Aside0.mk hC14
            clear hA14 hC14 hi014 hsz14
            refine start_ (n := 8) (S := fun w' => True) (ds := []) #[false, false, false, false, false, false, false, false] (by kernel_rfl) rfl rfl trivial (fun hHeld => ?_); refine with_tabW darninglaw23_CodeCut.tab4 darninglaw23_CodeCut.bits4 (fun HT_ HW_ => ?_)
            generalize w.drew = w13 at HB HR203 hHeld ⊢
            refine pure_ (i := 0) (N := some 21) (v := ?_) (a' := ?_) #[true, false, false, false, false, false, false, false] rfl rfl (any_of HT_.out (by kernel_rfl)) (fun _ _ _ h => h) (Or.inl ⟨by rfl, ?_⟩) ?_ ?_
            rotate_left
            · intro w'
              go_simp
              with_reducible rfl
            rotate_left
            · simp only [Act.put, List.setIfInBounds_toArray, List.set_cons_zero, List.set_cons_succ, i64_w, i32_w]
              rfl
            refine pure_ (i := 2) (N := some 23) (v := ?_) (a' := ?_) #[true, false, true, false, false, false, false, false] rfl rfl (any_of HT_.out (by kernel_rfl)) (fun _ _ _ h => h) (Or.inl ⟨by rfl, ?_⟩) ?_ ?_
            rotate_left
            · intro w'
              go_simp
              with_reducible rfl
            rotate_left
            · simp only [Act.put, List.setIfInBounds_toArray, List.set_cons_zero, List.set_cons_succ, i64_w, i32_w]
              rfl
            refine pure_ (i := 3) (N := some 24) (v := ?_) (a' := ?_) #[true, false, true, true, false, false, false, false] rfl rfl (any_of HT_.out (by kernel_rfl)) (fun _ _ _ h => h) (Or.inl ⟨by rfl, ?_⟩) ?_ ?_
            rotate_left
            · intro w'
              go_simp
              with_reducible rfl
            rotate_left
            · simp only [Act.put, List.setIfInBounds_toArray, List.set_cons_zero, List.set_cons_succ, i64_w, i32_w]
              rfl
            refine pure_ (i := 4) (N := some 25) (v := ?_) (a' := ?_) #[true, false, true, true, true, false, false, false] rfl rfl (any_of HT_.out (by kernel_rfl)) (fun _ _ _ h => h) (Or.inl ⟨by rfl, ?_⟩) ?_ ?_
            rotate_left
            · intro w'
              go_simp
              with_reducible rfl
            rotate_left
            · simp only [Act.put, List.setIfInBounds_toArray, List.set_cons_zero, List.set_cons_succ, i64_w, i32_w]
              rfl
            refine one_ (i := 1) (N := some 22) #[true, true, true, true, true, false, false, false] rfl rfl (one_of HT_.out (by kernel_rfl)) (by decide) (fun K hK => ?_)
            refine goes_ Try.func19 (by kernel_rfl) rfl #[.slice A0 l0.length c0] (by rfl) rfl rfl (by (try simp only [List.map_toArray, List.map_cons, List.map_nil]); first | done | rfl | (simp only [List.length_drop, List.length_take]; rfl)) ?_
            with_reducible refine (code_Decode.calls k (fun k_ => k_ < w.heap.size) _ _ l0 t200 _ ?side1 A7.out).mono ?_
            (case side1 => exact Kd.V_mk HC0.out (Kd.F_below (Kd.C_F (Kd.heap_int .u8) HR0.out) (by repeat (first | (with_reducible first | exact HB.out | apply below_alloc | apply pw_below_drewN | apply below_drew1) | exact HB.out))))
            rintro e w15 ⟨v201, rfl, ho0, hb⟩
            refine ⟨_, rfl, ?_⟩
            have n0_ := Aside0.mk (Kd.S_lower (Kd.S_mono (ok' := fun k_ => True) ho0 (fun _ hk_ => trivial)) (below_size (by repeat (first | (with_reducible first | exact HB.out | apply below_alloc | apply pw_below_drewN | apply below_drew1) | exact HB.out))))
            have n1_ := Aside0.mk (below_step (by repeat (first | (with_reducible first | exact HB.out | apply below_alloc | apply pw_below_drewN | apply below_drew1) | exact HB.out)) hb)
            clear HB
            have HO202 := n0_
            have HB := n1_
            clear n0_ n1_
            (try clear hb)
            (try clear hb2)
            (try clear hk)
            (try clear hi)
            (try clear ho0)
            refine hK.out _ _ trivial (fun hHeld => ?_)
            clear hK K
            refine norm_ (a' := ?_) ?_ ?_
            rotate_left
            · show Act.put _ (some 22) _ = _
              simp only [Act.put, List.setIfInBounds_toArray, List.set_cons_zero, List.set_cons_succ, i64_w, i32_w]
              rfl
            refine one_ (i := 5) (N := some 26) #[true, true, true, true, true, true, false, false] rfl rfl (one_of HT_.out (by kernel_rfl)) (by decide) (fun K hK => ?_)
            refine goes_ Try.func19 (by kernel_rfl) rfl #[.slice A0 (l0.take ((ji8) : Int).toNat).length c0] (by rfl) rfl rfl (by (try simp only [List.map_toArray, List.map_cons, List.map_nil]); first | done | (rw [show (l0.take ((ji8) : Int).toNat).length = (ji8).toNat from (by rw [List.length_take]; have h_ : ((ji8) : Int) ≤ (l0.length : Int) := of_decide_eq_true (by first | (with_reducible assumption) | assumption); omega)] <;> rfl) | (simp only [hji8]; rfl) | rfl | (simp only [List.length_drop, List.length_take]; rfl)) ?_
            with_reducible refine (code_Decode.calls k (fun k_ => k_ < w.heap.size) _ _ (l0.take ((ji8) : Int).toNat) t204 _ ?side1 A11.out).mono ?_
            (case side1 => exact Kd.V_mk HC203.out (Kd.F_below (Kd.C_F (Kd.heap_int .u8) HR203.out) (by repeat (first | (with_reducible first | exact HB.out | apply below_alloc | apply pw_below_drewN | apply below_drew1) | exact HB.out))))
            rintro e w16 ⟨v205, rfl, ho0, hb⟩
            refine ⟨_, rfl, ?_⟩
            have n0_ := Aside0.mk (Kd.S_elder' (by (with_reducible repeat (first | apply Kd.S_alloc | apply Kd.S_drewN | apply Kd.S_drew)); exact HO202.out) (Kd.S_base ho0) hb)
            have n1_ := Aside0.mk (Kd.S_lower (Kd.S_new' (Kd.S_mono (ok' := fun k_ => True) ho0 (fun _ hk_ => trivial)) (Kd.S_lt (by (with_reducible repeat (first | apply Kd.S_alloc | apply Kd.S_drewN | apply Kd.S_drew)); exact HO202.out))) (below_size (by repeat (first | (with_reducible first | exact HB.out | apply below_alloc | apply pw_below_drewN | apply below_drew1) | exact HB.out))))
            have n2_ := Aside0.mk (below_step (by repeat (first | (with_reducible first | exact HB.out | apply below_alloc | apply pw_below_drewN | apply below_drew1) | exact HB.out)) hb)
            clear HO202
            clear HB
            have HO202 := n0_
            have HO206 := n1_
            have HB := n2_
            clear n0_ n1_ n2_
            (try clear hb)
            (try clear hb2)
            (try clear hk)
            (try clear hi)
            (try clear ho0)
            refine hK.out _ _ trivial (fun hHeld => ?_)
            clear hK K
            refine norm_ (a' := ?_) ?_ ?_
            rotate_left
            · show Act.put _ (some 26) _ = _
              simp only [Act.put, List.setIfInBounds_toArray, List.set_cons_zero, List.set_cons_succ, i64_w, i32_w]
              rfl
            refine pure_ (i := 6) (N := some 6) (v := ?_) (a' := ?_) #[true, true, true, true, true, true, true, false] rfl rfl (any_of HT_.out (by kernel_rfl)) (fun _ _ _ h => h) (Or.inl ⟨by rfl, ?_⟩) ?_ ?_
            rotate_left
            · intro w'
              go_simp
              with_reducible rfl
            rotate_left
            · simp only [Act.put, List.setIfInBounds_toArray, List.set_cons_zero, List.set_cons_succ, i64_w, i32_w]
              rfl
            refine pure_ (i := 7) (N := some 7) (v := ?_) (a' := ?_) #[true, true, true, true, true, true, true, true] rfl rfl (any_of HT_.out (by kernel_rfl)) (fun _ _ _ h => h) (Or.inl ⟨by rfl, ?_⟩) ?_ ?_
            rotate_left
            · intro w'
              go_simp
              with_reducible rfl
            rotate_left
            · simp only [Act.put, List.setIfInBounds_toArray, List.set_cons_zero, List.set_cons_succ, i64_w, i32_w]
              rfl
            refine done_ (done_of HT_.out (by kernel_rfl)) ?_
            obtain ⟨Ao17, co17, eo17⟩ := Kd.S_slice HO206.out
            subst eo17
            obtain ⟨Ao18, co18, eo18⟩ := Kd.S_slice HO202.out
            subst eo18
            try go_wp2
            go_loopg [34] k (fun kq v34 w' => ∃ (x34_1 : Int), v34 = .int .i64 x34_1 ∧ Aside0 (darninglaw23_CodeCut.l0 kq t200 t204 (t204.length : Int) x34_1 = some true) ∧ Aside0 (kq ≤ k) ∧ Aside0 (Kd.S k26 26 w' w.heap.size (fun k_ => some k_ ≠ ((.slice Ao17 t204.length co17) : Value).ownBlock) (.slice Ao18 t200.length co18) t200) ∧ Aside0 (Kd.S k26 26 w' w.heap.size (fun k_ => some k_ ≠ ((.slice Ao18 t200.length co18) : Value).ownBlock) (.slice Ao17 t204.length co17) t204) ∧ Aside0 (Below w.heap.size w w'))
            case atStart => exact ⟨(0), (by first | rfl | (simp; done) | (simp [*]; done)), H', ⟨Nat.le_refl _⟩, ⟨by (with_reducible repeat (first | apply Kd.S_alloc | apply Kd.S_drewN | apply Kd.S_drew)); exact Kd.S_mono HO202.out (fun _ hk => hk.2)⟩, ⟨by (with_reducible repeat (first | apply Kd.S_alloc | apply Kd.S_drewN | apply Kd.S_drew)); exact Kd.S_mono HO206.out (fun _ hk => hk.2)⟩, ⟨by repeat (first | (with_reducible first | exact HB.out | apply below_alloc | apply pw_below_drewN | apply below_drew1) | exact HB.out)⟩⟩
            case round =>
              clear H'
              try clear c1
              try clear p2
              try clear c3
              try clear c3b0
              try clear c3b1
              try clear c6
              try clear c6b0
              try clear c6b1
              try clear p6
              try clear c7
              try clear c9
              try clear c9b0
              try clear c9b1
              try clear c10
              try clear c10b0
              try clear c10b1
              try clear c12
              try clear c12b0
              try clear c12b1
              try clear c13
              obtain ⟨x34_1, rfl, HA, HK1, HO_6, HO_7, HB⟩ := hrel
              cases gk with
              | zero => exact absurd HA.out (by simp [darninglaw23_CodeCut.l0])
              | succ k1 =>
                have H := HA.out
                clear HA
                simp only [darninglaw23_CodeCut.l0] at H
                by_cases c19 : x34_1 < (t204.length : Int)
                · rw [if_pos c19] at H
                  have c19b0 : decide (x34_1 < (t204.length : Int)) = true := decide_eq_true c19
                  clear c19
                  have HC20 := Aside0.mk H
                  clear H
                  go_upto_block 1 with (fail)
                  go_cut [] (fun wc => ∃ (kq : Nat), Aside0 (darninglaw23_CodeCut.j1 kq t200 t204 (t204.length : Int) x34_1 = some true) ∧ Aside0 (kq ≤ k1) ∧ Aside0 (Kd.S k26 26 wc w.heap.size (fun k_ => some k_ ≠ ((.slice Ao17 t204.length co17) : Value).ownBlock) (.slice Ao18 t200.length co18) t200) ∧ Aside0 (Kd.S k26 26 wc w.heap.size (fun k_ => some k_ ≠ ((.slice Ao18 t200.length co18) : Value).ownBlock) (.slice Ao17 t204.length co17) t204) ∧ Aside0 (Below w.heap.size w wc))
                  case first =>
                    have H := HC20.out
                    clear HC20
                    by_cases c21 : 0 ≤ x34_1
                    · rw [if_pos c21] at H
                      have c21b0 : decide (0 ≤ x34_1) = true := decide_eq_true c21
                      clear c21
                      (first | rw [c21b0] | (simp only [i64_w, i32_w]; rw [c21b0]) | skip)
                      by_cases c22 : x34_1 < (t200.length : Int)
                      · rw [if_pos c22] at H
                        have c22b0 : decide (x34_1 < (t200.length : Int)) = true := decide_eq_true c22
                        clear c22
                        by_cases c23 : x34_1 < (t204.length : Int)
                        · rw [if_pos c23] at H
                          have c23b0 : decide (x34_1 < (t204.length : Int)) = true := decide_eq_true c23
                          clear c23
                          replace H := Option.bind_eq_some_iff.mp H
                          obtain ⟨t209, A240, H⟩ := H
                          replace H : (if t209 = true then (darninglaw23_CodeCut.j1 k1 t200 t204 (t204.length : Int) x34_1) else (if x34_1 = (wrap64 ((t204.length : Int) - 1)) then (if ((rd_T26 t204 x34_1).f0) = 4 then (if ((rd_T26 t200 x34_1).f0) = 4 then (if (((rd_T26 t204 x34_1).f4).length : Int) ≥ (((rd_T26 t200 x34_1).f4).length : Int) then (some false) else (if 0 ≤ (((rd_T26 t204 x34_1).f4).length : Int) then (if (((rd_T26 t204 x34_1).f4).length : Int) ≤ (((rd_T26 t200 x34_1).f4).length : Int) then (if (strOfNums (((rd_T26 t200 x34_1).f4).take ((((rd_T26 t204 x34_1).f4).length : Int) : Int).toNat)).toList = (strOfNums ((rd_T26 t204 x34_1).f4)).toList then (darninglaw23_CodeCut.j1 k1 t200 t204 (t204.length : Int) x34_1) else (some false)) else (none)) else (none))) else (some false)) else (some false)) else (some false))) = some true := H
                          have A24 := Aside0.mk A240
                          clear A240
                          by_cases c25 : t209 = true
                          · subst c25
                            have H1 : (darninglaw23_CodeCut.j1 k1 t200 t204 (t204.length : Int) x34_1) = some true := by rw [if_pos rfl] at H; exact H
                            clear H
                            have H := H1
                            clear H1
                            as_aux_lemma =>
                              have H' := Aside0.mk H
                              clear H
                              try go_wp2
                              have n0_ := Aside0.mk (Kd.S_drew HO_6.out)
                              have n1_ := Aside0.mk (Kd.S_drew HO_7.out)
                              have n2_ := Aside0.mk (below_drew1 HB.out)
                              clear HO_6
                              clear HO_7
                              clear HB
                              have HO_6 := n0_
                              have HO_7 := n1_
                              have HB := n2_
                              clear n0_ n1_ n2_
                              have p207 : 0 ≤ (x34_1 : Int) := of_decide_eq_true (by first | (with_reducible assumption) | assumption)
                              have q207 : x34_1 < (t200.length : Int) := of_decide_eq_true (by first | (with_reducible assumption) | assumption)
                              obtain ⟨ad207, A207_4, c207_4, e207, hx207_0, hx207_1, hx207_2, hx207_3, hx207_4, hl207_4, hi207_4⟩ := at_T26 (Kd.S_reads' HO_6.out).2.2 x34_1 p207 q207
                              cases e207
                              obtain ⟨ce207, hce207, hMe207, hcc207⟩ := Kd.S_get HO_6.out z26 x34_1 p207 (by first | exact q207 | exact of_decide_eq_true (by first | (with_reducible assumption) | assumption) | (have e_ := (Kd.S_reads' HO_6.out).1; omega))
                              obtain ⟨ve207_4, rfl, ge207_4⟩ := k26_openM hMe207
                              have hv207_4 := hcc207 4 _ rfl
                              rw [add_field _ _ 4 (by omega)] at hv207_4
                              replace hv207_4 := Option.some.inj (hv207_4.symm.trans hx207_4)
                              rw [hv207_4] at ge207_4
                              have HL207_4 := Aside0.mk (show Kd.R (Kd.int .u8) 5 _ _ _ _ ((rd_T26 t200 x34_1).f4) from ge207_4)
                              clear hv207_4 ge207_4
                              clear hcc207 hce207
                              have HR207_4 := Aside0.mk hi207_4
                              have HC207_4 := Aside0.mk hl207_4
                              clear hi207_4 hl207_4
                              replace p207 := eq_true p207
                              replace q207 := eq_true q207
                              have p208 : 0 ≤ (x34_1 : Int) := of_decide_eq_true (by first | (with_reducible assumption) | assumption)
                              have q208 : x34_1 < (t204.length : Int) := of_decide_eq_true (by first | (with_reducible assumption) | assumption)
                              obtain ⟨ad208, A208_4, c208_4, e208, hx208_0, hx208_1, hx208_2, hx208_3, hx208_4, hl208_4, hi208_4⟩ := at_T26 (Kd.S_reads' HO_7.out).2.2 x34_1 p208 q208
                              cases e208
                              obtain ⟨ce208, hce208, hMe208, hcc208⟩ := Kd.S_get HO_7.out z26 x34_1 p208 (by first | exact q208 | exact of_decide_eq_true (by first | (with_reducible assumption) | assumption) | (have e_ := (Kd.S_reads' HO_7.out).1; omega))
                              obtain ⟨ve208_4, rfl, ge208_4⟩ := k26_openM hMe208
                              have hv208_4 := hcc208 4 _ rfl
                              rw [add_field _ _ 4 (by omega)] at hv208_4
                              replace hv208_4 := Option.some.inj (hv208_4.symm.trans hx208_4)
                              rw [hv208_4] at ge208_4
                              have HL208_4 := Aside0.mk (show Kd.R (Kd.int .u8) 5 _ _ _ _ ((rd_T26 t204 x34_1).f4) from ge208_4)
                              clear hv208_4 ge208_4
                              clear hcc208 hce208
                              have HR208_4 := Aside0.mk hi208_4
                              have HC208_4 := Aside0.mk hl208_4
                              clear hi208_4 hl208_4
                              replace p208 := eq_true p208
                              replace q208 := eq_true q208
                              refine start_ (n := 9) (S := fun w' => w'.cell? (ad207.add ((x34_1).toNat * 5)) = some (.int .i64 ((rd_T26 t200 x34_1).f0)) ∧ w'.cell? ⟨(ad207.add ((x34_1).toNat * 5)).block, (ad207.add ((x34_1).toNat * 5)).off + 1, none⟩ = some (.int .i64 ((rd_T26 t200 x34_1).f1)) ∧ w'.cell? ⟨(ad207.add ((x34_1).toNat * 5)).block, (ad207.add ((x34_1).toNat * 5)).off + 2, none⟩ = some (.int .i64 ((rd_T26 t200 x34_1).f2)) ∧ w'.cell? ⟨(ad207.add ((x34_1).toNat * 5)).block, (ad207.add ((x34_1).toNat * 5)).off + 3, none⟩ = some (.int .i64 ((rd_T26 t200 x34_1).f3)) ∧ w'.cell? ⟨(ad207.add ((x34_1).toNat * 5)).block, (ad207.add ((x34_1).toNat * 5)).off + 4, none⟩ = some (.slice A207_4 ((rd_T26 t200 x34_1).f4).length c207_4) ∧ w'.cell? (ad208.add ((x34_1).toNat * 5)) = some (.int .i64 ((rd_T26 t204 x34_1).f0)) ∧ w'.cell? ⟨(ad208.add ((x34_1).toNat * 5)).block, (ad208.add ((x34_1).toNat * 5)).off + 1, none⟩ = some (.int .i64 ((rd_T26 t204 x34_1).f1)) ∧ w'.cell? ⟨(ad208.add ((x34_1).toNat * 5)).block, (ad208.add ((x34_1).toNat * 5)).off + 2, none⟩ = some (.int .i64 ((rd_T26 t204 x34_1).f2)) ∧ w'.cell? ⟨(ad208.add ((x34_1).toNat * 5)).block, (ad208.add ((x34_1).toNat * 5)).off + 3, none⟩ = some (.int .i64 ((rd_T26 t204 x34_1).f3)) ∧ w'.cell? ⟨(ad208.add ((x34_1).toNat * 5)).block, (ad208.add ((x34_1).toNat * 5)).off + 4, none⟩ = some (.slice A208_4 ((rd_T26 t204 x34_1).f4).length c208_4)) (ds := []) #[false, false, false, false, false, false, false, false, false] (by kernel_rfl) rfl rfl ⟨hx207_0, hx207_1, hx207_2, hx207_3, hx207_4, hx208_0, hx208_1, hx208_2, hx208_3, hx208_4⟩ (fun hHeld => ?_); refine with_tabW darninglaw23_CodeCut.tab10 darninglaw23_CodeCut.bits10 (fun HT_ HW_ => ?_)
                              generalize wr.drew = w26 at HO_6 HO_7 HB HL207_4 HL208_4 HR207_4 HR208_4 hx207_0 hx207_1 hx207_2 hx207_3 hx207_4 hx208_0 hx208_1 hx208_2 hx208_3 hx208_4 hHeld ⊢
                              refine pure_ (i := 0) (N := some 37) (v := ?_) (a' := ?_) #[true, false, false, false, false, false, false, false, false] rfl rfl (any_of HT_.out (by kernel_rfl)) (fun _ _ _ h => h) (Or.inl ⟨by rfl, ?_⟩) ?_ ?_
                              rotate_left
                              · intro w'
                                go_simp
                                with_reducible rfl
                              rotate_left
                              · simp only [Act.put, List.setIfInBounds_toArray, List.set_cons_zero, List.set_cons_succ, i64_w, i32_w]
                                rfl
                              refine pure_ (i := 1) (N := some 38) (v := ?_) (a' := ?_) #[true, true, false, false, false, false, false, false, false] rfl rfl (any_of HT_.out (by kernel_rfl)) (fun _ _ _ h => h) (Or.inl ⟨by rfl, ?_⟩) ?_ ?_
                              rotate_left
                              · intro w'
                                go_simp
                                with_reducible rfl
                              rotate_left
                              · simp only [Act.put, List.setIfInBounds_toArray, List.set_cons_zero, List.set_cons_succ, i64_w, i32_w]
                                rfl
                              refine pure_ (i := 2) (N := some 39) (v := ?_) (a' := ?_) #[true, true, true, false, false, false, false, false, false] rfl rfl (any_of HT_.out (by kernel_rfl)) (fun _ _ _ h => h) (Or.inl ⟨by rfl, ?_⟩) ?_ ?_
                              rotate_left
                              · intro w'
                                go_simp
                                with_reducible rfl
                              rotate_left
                              · simp only [Act.put, List.setIfInBounds_toArray, List.set_cons_zero, List.set_cons_succ, i64_w, i32_w]
                                rfl
                              refine pure_ (i := 4) (N := some 41) (v := ?_) (a' := ?_) #[true, true, true, false, true, false, false, false, false] rfl rfl (any_of HT_.out (by kernel_rfl)) (fun _ _ _ h => h) (Or.inl ⟨by rfl, ?_⟩) ?_ ?_
                              rotate_left
                              · intro w'
                                go_simp
                                with_reducible rfl
                              rotate_left
                              · simp only [Act.put, List.setIfInBounds_toArray, List.set_cons_zero, List.set_cons_succ, i64_w, i32_w]
                                rfl
                              refine pure_ (i := 5) (N := some 42) (v := ?_) (a' := ?_) #[true, true, true, false, true, true, false, false, false] rfl rfl (any_of HT_.out (by kernel_rfl)) (fun _ _ _ h => h) (Or.inl ⟨by rfl, ?_⟩) ?_ ?_
                              rotate_left
                              · intro w'
                                go_simp
                                with_reducible rfl
                              rotate_left
                              · simp only [Act.put, List.setIfInBounds_toArray, List.set_cons_zero, List.set_cons_succ, i64_w, i32_w]
                                rfl
                              refine pure_ (i := 6) (N := some 43) (v := ?_) (a' := ?_) #[true, true, true, false, true, true, true, false, false] rfl rfl (any_of HT_.out (by kernel_rfl)) (fun _ _ _ h => h) (Or.inl ⟨by rfl, ?_⟩) ?_ ?_
                              rotate_left
                              · intro w'
                                go_simp
                                with_reducible rfl
                              rotate_left
                              · simp only [Act.put, List.setIfInBounds_toArray, List.set_cons_zero, List.set_cons_succ, i64_w, i32_w]
                                rfl
                              refine take_ (i := 3) (N := some 40) (v := ?_) (a' := ?_) #[true, true, true, true, true, true, true, false, false] rfl rfl (take_ofW HT_.out HW_.out (by kernel_rfl)) (fun _ _ _ h => h) (Or.inl ⟨by rfl, ?_⟩) hHeld ?_ ?_
                              rotate_left
                              · rintro w' ⟨s0, s1, s2, s3, s4, s5, s6, s7, s8, s9⟩
                                go_simp
                                with_reducible rfl
                              rotate_left
                              · simp only [Act.put, List.setIfInBounds_toArray, List.set_cons_zero, List.set_cons_succ, i64_w, i32_w]
                                rfl
                              refine take_ (i := 7) (N := some 44) (v := ?_) (a' := ?_) #[true, true, true, true, true, true, true, true, false] rfl rfl (take_ofW HT_.out HW_.out (by kernel_rfl)) (fun _ _ _ h => h) (Or.inl ⟨by rfl, ?_⟩) hHeld ?_ ?_
                              rotate_left
                              · rintro w' ⟨s0, s1, s2, s3, s4, s5, s6, s7, s8, s9⟩
                                go_simp
                                with_reducible rfl
                              rotate_left
                              · simp only [Act.put, List.setIfInBounds_toArray, List.set_cons_zero, List.set_cons_succ, i64_w, i32_w]
                                rfl
                              refine one_ (i := 8) (N := some 45) #[true, true, true, true, true, true, true, true, true] rfl rfl (one_of HT_.out (by kernel_rfl)) (by decide) (fun K hK => ?_)
                              refine goes_ Try.func21 (by kernel_rfl) rfl #[.agg #[.int .i64 ((rd_T26 t200 x34_1).f0), .int .i64 ((rd_T26 t200 x34_1).f1), .int .i64 ((rd_T26 t200 x34_1).f2), .int .i64 ((rd_T26 t200 x34_1).f3), .slice A207_4 ((rd_T26 t200 x34_1).f4).length c207_4], .agg #[.int .i64 ((rd_T26 t204 x34_1).f0), .int .i64 ((rd_T26 t204 x34_1).f1), .int .i64 ((rd_T26 t204 x34_1).f2), .int .i64 ((rd_T26 t204 x34_1).f3), .slice A208_4 ((rd_T26 t204 x34_1).f4).length c208_4]] (by rfl) rfl rfl (by (try simp only [List.map_toArray, List.map_cons, List.map_nil]); first | done | rfl | (simp only [List.length_drop, List.length_take]; rfl)) ?_
                              with_reducible refine (darningref4_SameOp.calls ((rd_T26 t200 x34_1).f0) ((rd_T26 t200 x34_1).f1) ((rd_T26 t200 x34_1).f2) ((rd_T26 t200 x34_1).f3) _ _ ((rd_T26 t200 x34_1).f4) ((rd_T26 t204 x34_1).f0) ((rd_T26 t204 x34_1).f1) ((rd_T26 t204 x34_1).f2) ((rd_T26 t204 x34_1).f3) _ _ ((rd_T26 t204 x34_1).f4) true _ ?side1 ?side2 ?side3 ?side4 A24.out).mono ?_
                              (case side1 => repeat (first | exact (by repeat (first | (with_reducible exact HR207_4.out) | (with_reducible refine Kd.C_alloc ?_ _) | (with_reducible refine Kd.C_drewN ?_ _) | (with_reducible refine Kd.C_drew ?_) | exact HR207_4.out)) | (with_reducible refine Kd.C_alloc ?_ _) | (with_reducible refine Kd.C_drewN ?_ _) | (with_reducible refine Kd.C_drew ?_)))
                              (case side2 => exact HC207_4.out)
                              (case side3 => repeat (first | exact (by repeat (first | (with_reducible exact HR208_4.out) | (with_reducible refine Kd.C_alloc ?_ _) | (with_reducible refine Kd.C_drewN ?_ _) | (with_reducible refine Kd.C_drew ?_) | exact HR208_4.out)) | (with_reducible refine Kd.C_alloc ?_ _) | (with_reducible refine Kd.C_drewN ?_ _) | (with_reducible refine Kd.C_drew ?_)))
                              (case side4 => exact HC208_4.out)
                              rintro e w27 ⟨rfl, hb⟩
                              have HS0_ := (hb.cell (World.block_lt_of_cell? _ _ (hHeld.1))).trans (hHeld.1)
                              have HS1_ := (hb.cell (World.block_lt_of_cell? _ _ (hHeld.2.1))).trans (hHeld.2.1)
                              have HS2_ := (hb.cell (World.block_lt_of_cell? _ _ (hHeld.2.2.1))).trans (hHeld.2.2.1)
                              have HS3_ := (hb.cell (World.block_lt_of_cell? _ _ (hHeld.2.2.2.1))).trans (hHeld.2.2.2.1)
                              have HS4_ := (hb.cell (World.block_lt_of_cell? _ _ (hHeld.2.2.2.2.1))).trans (hHeld.2.2.2.2.1)
                              have HS5_ := (hb.cell (World.block_lt_of_cell? _ _ (hHeld.2.2.2.2.2.1))).trans (hHeld.2.2.2.2.2.1)
                              have HS6_ := (hb.cell (World.block_lt_of_cell? _ _ (hHeld.2.2.2.2.2.2.1))).trans (hHeld.2.2.2.2.2.2.1)
                              have HS7_ := (hb.cell (World.block_lt_of_cell? _ _ (hHeld.2.2.2.2.2.2.2.1))).trans (hHeld.2.2.2.2.2.2.2.1)
                              have HS8_ := (hb.cell (World.block_lt_of_cell? _ _ (hHeld.2.2.2.2.2.2.2.2.1))).trans (hHeld.2.2.2.2.2.2.2.2.1)
                              have HS9_ := (hb.cell (World.block_lt_of_cell? _ _ (hHeld.2.2.2.2.2.2.2.2.2))).trans (hHeld.2.2.2.2.2.2.2.2.2)
                              refine ⟨_, rfl, ?_⟩
                              have n0_ := Aside0.mk (Kd.S_below (by (with_reducible repeat (first | apply Kd.S_alloc | apply Kd.S_drewN | apply Kd.S_drew)); exact HO_6.out) hb)
                              have n1_ := Aside0.mk (Kd.S_below (by (with_reducible repeat (first | apply Kd.S_alloc | apply Kd.S_drewN | apply Kd.S_drew)); exact HO_7.out) hb)
                              have n2_ := Aside0.mk (Kd.R_below (by (with_reducible repeat (first | apply Kd.R_alloc | apply Kd.R_drewN | apply Kd.R_drew)); exact HL207_4.out) hb)
                              have n3_ := Aside0.mk (Kd.R_below (by (with_reducible repeat (first | apply Kd.R_alloc | apply Kd.R_drewN | apply Kd.R_drew)); exact HL208_4.out) hb)
                              have n4_ := Aside0.mk (Kd.C_below (by repeat (first | (with_reducible exact HR207_4.out) | (with_reducible refine Kd.C_alloc ?_ _) | (with_reducible refine Kd.C_drewN ?_ _) | (with_reducible refine Kd.C_drew ?_) | exact HR207_4.out)) hb)
                              have n5_ := Aside0.mk (Kd.C_below (by repeat (first | (with_reducible exact HR208_4.out) | (with_reducible refine Kd.C_alloc ?_ _) | (with_reducible refine Kd.C_drewN ?_ _) | (with_reducible refine Kd.C_drew ?_) | exact HR208_4.out)) hb)
                              have n6_ := Aside0.mk (below_step (by repeat (first | (with_reducible first | exact HB.out | apply below_alloc | apply pw_below_drewN | apply below_drew1) | exact HB.out)) hb)
                              clear HO_6
                              clear HO_7
                              clear HL207_4
                              clear HL208_4
                              clear HR207_4
                              clear HR208_4
                              clear HB
                              have HO_6 := n0_
                              have HO_7 := n1_
                              have HL207_4 := n2_
                              have HL208_4 := n3_
                              have HR207_4 := n4_
                              have HR208_4 := n5_
                              have HB := n6_
                              clear n0_ n1_ n2_ n3_ n4_ n5_ n6_
                              (try clear hb)
                              (try clear hb2)
                              (try clear hk)
                              (try clear hi)
                              refine hK.out _ _ ⟨HS0_, HS1_, HS2_, HS3_, HS4_, HS5_, HS6_, HS7_, HS8_, HS9_⟩ (fun hHeld => ?_)
                              clear hK K
                              refine norm_ (a' := ?_) ?_ ?_
                              rotate_left
                              · show Act.put _ (some 45) _ = _
                                simp only [Act.put, List.setIfInBounds_toArray, List.set_cons_zero, List.set_cons_succ, i64_w, i32_w]
                                rfl
                              refine done_ (done_of HT_.out (by kernel_rfl)) ?_
                              try go_wp2
                              go_meet
                              case rel => exact ⟨_, (by first | exact H' | ((try rw [hji8]); exact H')), ⟨by have := HK1.out; first | omega | exact Nat.le_refl _⟩, ⟨by (with_reducible repeat (first | apply Kd.S_alloc | apply Kd.S_drewN | apply Kd.S_drew)); exact HO_6.out⟩, ⟨by (with_reducible repeat (first | apply Kd.S_alloc | apply Kd.S_drewN | apply Kd.S_drew)); exact HO_7.out⟩, ⟨by repeat (first | (with_reducible first | exact HB.out | apply below_alloc | apply pw_below_drewN | apply below_drew1) | exact HB.out)⟩⟩
                          · replace c25 := Bool.eq_false_iff.mpr c25
                            subst c25
                            have H1 : (if x34_1 = (wrap64 ((t204.length : Int) - 1)) then (if ((rd_T26 t204 x34_1).f0) = 4 then (if ((rd_T26 t200 x34_1).f0) = 4 then (if (((rd_T26 t204 x34_1).f4).length : Int) ≥ (((rd_T26 t200 x34_1).f4).length : Int) then (some false) else (if 0 ≤ (((rd_T26 t204 x34_1).f4).length : Int) then (if (((rd_T26 t204 x34_1).f4).length : Int) ≤ (((rd_T26 t200 x34_1).f4).length : Int) then (if (strOfNums (((rd_T26 t200 x34_1).f4).take ((((rd_T26 t204 x34_1).f4).length : Int) : Int).toNat)).toList = (strOfNums ((rd_T26 t204 x34_1).f4)).toList then (darninglaw23_CodeCut.j1 k1 t200 t204 (t204.length : Int) x34_1) else (some false)) else (none)) else (none))) else (some false)) else (some false)) else (some false)) = some true := by rw [if_neg (show ¬ (false = true) by decide)] at H; exact H
                            clear H
                            have H := H1
                            clear H1
                            by_cases c28 : x34_1 = (wrap64 ((t204.length : Int) - 1))
                            · rw [if_pos c28] at H
                              have c28b0 : (x34_1 == (wrap64 ((t204.length : Int) - 1))) = true := beq_iff_eq.mpr c28
                              have c28b1 : (x34_1 != (wrap64 ((t204.length : Int) - 1))) = false := bne_eq_false_iff_eq.mpr c28
                              clear c28
                              by_cases c29 : ((rd_T26 t204 x34_1).f0) = 4
                              · rw [if_pos c29] at H
                                have c29b0 : (((rd_T26 t204 x34_1).f0) == 4) = true := beq_iff_eq.mpr c29
                                have c29b1 : (((rd_T26 t204 x34_1).f0) != 4) = false := bne_eq_false_iff_eq.mpr c29
                                clear c29
                                by_cases c30 : ((rd_T26 t200 x34_1).f0) = 4
                                · rw [if_pos c30] at H
                                  have c30b0 : (((rd_T26 t200 x34_1).f0) == 4) = true := beq_iff_eq.mpr c30
                                  have c30b1 : (((rd_T26 t200 x34_1).f0) != 4) = false := bne_eq_false_iff_eq.mpr c30
                                  clear c30
                                  by_cases c31 : (((rd_T26 t204 x34_1).f4).length : Int) ≥ (((rd_T26 t200 x34_1).f4).length : Int)
                                  · rw [if_pos c31] at H
                                    have c31b0 : decide ((((rd_T26 t200 x34_1).f4).length : Int) ≤ (((rd_T26 t204 x34_1).f4).length : Int)) = true := decide_eq_true c31
                                    have c31b1 : decide (((rd_T26 t200 x34_1).f4).length ≤ ((rd_T26 t204 x34_1).f4).length) = true := decide_eq_true (Int.ofNat_le.mp c31)
                                    clear c31
                                    exact absurd H (by simp)
                                  · rw [if_neg c31] at H
                                    have c31b0 : decide ((((rd_T26 t200 x34_1).f4).length : Int) ≤ (((rd_T26 t204 x34_1).f4).length : Int)) = false := decide_eq_false c31
                                    have c31b1 : decide (((rd_T26 t200 x34_1).f4).length ≤ ((rd_T26 t204 x34_1).f4).length) = false := decide_eq_false (fun h => c31 (Int.ofNat_le.mpr h))
                                    clear c31
                                    by_cases c32 : 0 ≤ (((rd_T26 t204 x34_1).f4).length : Int)
                                    · rw [if_pos c32] at H
                                      have c32b0 := eq_true c32
                                      have c32b1 : decide (0 ≤ (((rd_T26 t204 x34_1).f4).length : Int)) = true := decide_eq_true c32
                                      clear c32
                                      by_cases c33 : (((rd_T26 t204 x34_1).f4).length : Int) ≤ (((rd_T26 t200 x34_1).f4).length : Int)
                                      · rw [if_pos c33] at H
                                        have c33b0 := eq_true c33
                                        have c33b1 : decide ((((rd_T26 t204 x34_1).f4).length : Int) ≤ (((rd_T26 t200 x34_1).f4).length : Int)) = true := decide_eq_true c33
                                        clear c33
                                        obtain ⟨y216, hy216⟩ : ∃ y_ : List Int, y_ = (((rd_T26 t200 x34_1).f4).take ((((rd_T26 t204 x34_1).f4).length : Int) : Int).toNat) := ⟨_, rfl⟩
                                        replace H : (if (strOfNums y216).toList = (strOfNums ((rd_T26 t204 x34_1).f4)).toList then (darninglaw23_CodeCut.j1 k1 t200 t204 (t204.length : Int) x34_1) else (some false)) = some true := by first | (rw [hy216]; with_reducible exact H) | (have H2_ := (Option.bind_some _ _).symm.trans H; rw [hy216]; with_reducible exact H2_) | (have H2_ := (Option.bind_some _ _).symm.trans H; with_reducible exact H2_) | with_reducible exact H | (rw [hy216]; exact H) | exact H
                                        have Ny216 := Aside0.mk hy216
                                        clear hy216
                                        by_cases c34 : (strOfNums y216).toList = (strOfNums ((rd_T26 t204 x34_1).f4)).toList
                                        · rw [if_pos c34] at H
                                          have c34b0 : ((strOfNums y216).toList == (strOfNums ((rd_T26 t204 x34_1).f4)).toList) = true := beq_iff_eq.mpr c34
                                          have c34b1 : ((strOfNums y216).toList != (strOfNums ((rd_T26 t204 x34_1).f4)).toList) = false := bne_eq_false_iff_eq.mpr c34
                                          clear c34
                                          as_aux_lemma =>
                                            have H' := Aside0.mk H
                                            clear H
                                            try go_wp2
                                            have n0_ := Aside0.mk (Kd.S_drew HO_6.out)
                                            have n1_ := Aside0.mk (Kd.S_drew HO_7.out)
                                            have n2_ := Aside0.mk (below_drew1 HB.out)
                                            clear HO_6
                                            clear HO_7
                                            clear HB
                                            have HO_6 := n0_
                                            have HO_7 := n1_
                                            have HB := n2_
                                            clear n0_ n1_ n2_
                                            have p207 : 0 ≤ (x34_1 : Int) := of_decide_eq_true (by first | (with_reducible assumption) | assumption)
                                            have q207 : x34_1 < (t200.length : Int) := of_decide_eq_true (by first | (with_reducible assumption) | assumption)
                                            obtain ⟨ad207, A207_4, c207_4, e207, hx207_0, hx207_1, hx207_2, hx207_3, hx207_4, hl207_4, hi207_4⟩ := at_T26 (Kd.S_reads' HO_6.out).2.2 x34_1 p207 q207
                                            cases e207
                                            obtain ⟨ce207, hce207, hMe207, hcc207⟩ := Kd.S_get HO_6.out z26 x34_1 p207 (by first | exact q207 | exact of_decide_eq_true (by first | (with_reducible assumption) | assumption) | (have e_ := (Kd.S_reads' HO_6.out).1; omega))
                                            obtain ⟨ve207_4, rfl, ge207_4⟩ := k26_openM hMe207
                                            have hv207_4 := hcc207 4 _ rfl
                                            rw [add_field _ _ 4 (by omega)] at hv207_4
                                            replace hv207_4 := Option.some.inj (hv207_4.symm.trans hx207_4)
                                            rw [hv207_4] at ge207_4
                                            have HL207_4 := Aside0.mk (show Kd.R (Kd.int .u8) 5 _ _ _ _ ((rd_T26 t200 x34_1).f4) from ge207_4)
                                            clear hv207_4 ge207_4
                                            clear hcc207 hce207
                                            have HR207_4 := Aside0.mk hi207_4
                                            have HC207_4 := Aside0.mk hl207_4
                                            clear hi207_4 hl207_4
                                            replace p207 := eq_true p207
                                            replace q207 := eq_true q207
                                            have p208 : 0 ≤ (x34_1 : Int) := of_decide_eq_true (by first | (with_reducible assumption) | assumption)
                                            have q208 : x34_1 < (t204.length : Int) := of_decide_eq_true (by first | (with_reducible assumption) | assumption)
                                            obtain ⟨ad208, A208_4, c208_4, e208, hx208_0, hx208_1, hx208_2, hx208_3, hx208_4, hl208_4, hi208_4⟩ := at_T26 (Kd.S_reads' HO_7.out).2.2 x34_1 p208 q208
                                            cases e208
                                            obtain ⟨ce208, hce208, hMe208, hcc208⟩ := Kd.S_get HO_7.out z26 x34_1 p208 (by first | exact q208 | exact of_decide_eq_true (by first | (with_reducible assumption) | assumption) | (have e_ := (Kd.S_reads' HO_7.out).1; omega))
                                            obtain ⟨ve208_4, rfl, ge208_4⟩ := k26_openM hMe208
                                            have hv208_4 := hcc208 4 _ rfl
                                            rw [add_field _ _ 4 (by omega)] at hv208_4
                                            replace hv208_4 := Option.some.inj (hv208_4.symm.trans hx208_4)
                                            rw [hv208_4] at ge208_4
                                            have HL208_4 := Aside0.mk (show Kd.R (Kd.int .u8) 5 _ _ _ _ ((rd_T26 t204 x34_1).f4) from ge208_4)
                                            clear hv208_4 ge208_4
                                            clear hcc208 hce208
                                            have HR208_4 := Aside0.mk hi208_4
                                            have HC208_4 := Aside0.mk hl208_4
                                            clear hi208_4 hl208_4
                                            replace p208 := eq_true p208
                                            replace q208 := eq_true q208
                                            refine start_ (n := 9) (S := fun w' => w'.cell? (ad207.add ((x34_1).toNat * 5)) = some (.int .i64 ((rd_T26 t200 x34_1).f0)) ∧ w'.cell? ⟨(ad207.add ((x34_1).toNat * 5)).block, (ad207.add ((x34_1).toNat * 5)).off + 1, none⟩ = some (.int .i64 ((rd_T26 t200 x34_1).f1)) ∧ w'.cell? ⟨(ad207.add ((x34_1).toNat * 5)).block, (ad207.add ((x34_1).toNat * 5)).off + 2, none⟩ = some (.int .i64 ((rd_T26 t200 x34_1).f2)) ∧ w'.cell? ⟨(ad207.add ((x34_1).toNat * 5)).block, (ad207.add ((x34_1).toNat * 5)).off + 3, none⟩ = some (.int .i64 ((rd_T26 t200 x34_1).f3)) ∧ w'.cell? ⟨(ad207.add ((x34_1).toNat * 5)).block, (ad207.add ((x34_1).toNat * 5)).off + 4, none⟩ = some (.slice A207_4 ((rd_T26 t200 x34_1).f4).length c207_4) ∧ w'.cell? (ad208.add ((x34_1).toNat * 5)) = some (.int .i64 ((rd_T26 t204 x34_1).f0)) ∧ w'.cell? ⟨(ad208.add ((x34_1).toNat * 5)).block, (ad208.add ((x34_1).toNat * 5)).off + 1, none⟩ = some (.int .i64 ((rd_T26 t204 x34_1).f1)) ∧ w'.cell? ⟨(ad208.add ((x34_1).toNat * 5)).block, (ad208.add ((x34_1).toNat * 5)).off + 2, none⟩ = some (.int .i64 ((rd_T26 t204 x34_1).f2)) ∧ w'.cell? ⟨(ad208.add ((x34_1).toNat * 5)).block, (ad208.add ((x34_1).toNat * 5)).off + 3, none⟩ = some (.int .i64 ((rd_T26 t204 x34_1).f3)) ∧ w'.cell? ⟨(ad208.add ((x34_1).toNat * 5)).block, (ad208.add ((x34_1).toNat * 5)).off + 4, none⟩ = some (.slice A208_4 ((rd_T26 t204 x34_1).f4).length c208_4)) (ds := []) #[false, false, false, false, false, false, false, false, false] (by kernel_rfl) rfl rfl ⟨hx207_0, hx207_1, hx207_2, hx207_3, hx207_4, hx208_0, hx208_1, hx208_2, hx208_3, hx208_4⟩ (fun hHeld => ?_); refine with_tabW darninglaw23_CodeCut.tab10 darninglaw23_CodeCut.bits10 (fun HT_ HW_ => ?_)
                                            generalize wr.drew = w35 at HO_6 HO_7 HB HL207_4 HL208_4 HR207_4 HR208_4 hx207_0 hx207_1 hx207_2 hx207_3 hx207_4 hx208_0 hx208_1 hx208_2 hx208_3 hx208_4 hHeld ⊢
                                            refine pure_ (i := 0) (N := some 37) (v := ?_) (a' := ?_) #[true, false, false, false, false, false, false, false, false] rfl rfl (any_of HT_.out (by kernel_rfl)) (fun _ _ _ h => h) (Or.inl ⟨by rfl, ?_⟩) ?_ ?_
                                            rotate_left
                                            · intro w'
                                              go_simp
                                              with_reducible rfl
                                            rotate_left
                                            · simp only [Act.put, List.setIfInBounds_toArray, List.set_cons_zero, List.set_cons_succ, i64_w, i32_w]
                                              rfl
                                            refine pure_ (i := 1) (N := some 38) (v := ?_) (a' := ?_) #[true, true, false, false, false, false, false, false, false] rfl rfl (any_of HT_.out (by kernel_rfl)) (fun _ _ _ h => h) (Or.inl ⟨by rfl, ?_⟩) ?_ ?_
                                            rotate_left
                                            · intro w'
                                              go_simp
                                              with_reducible rfl
                                            rotate_left
                                            · simp only [Act.put, List.setIfInBounds_toArray, List.set_cons_zero, List.set_cons_succ, i64_w, i32_w]
                                              rfl
                                            refine pure_ (i := 2) (N := some 39) (v := ?_) (a' := ?_) #[true, true, true, false, false, false, false, false, false] rfl rfl (any_of HT_.out (by kernel_rfl)) (fun _ _ _ h => h) (Or.inl ⟨by rfl, ?_⟩) ?_ ?_
                                            rotate_left
                                            · intro w'
                                              go_simp
                                              with_reducible rfl
                                            rotate_left
                                            · simp only [Act.put, List.setIfInBounds_toArray, List.set_cons_zero, List.set_cons_succ, i64_w, i32_w]
                                              rfl
                                            refine pure_ (i := 4) (N := some 41) (v := ?_) (a' := ?_) #[true, true, true, false, true, false, false, false, false] rfl rfl (any_of HT_.out (by kernel_rfl)) (fun _ _ _ h => h) (Or.inl ⟨by rfl, ?_⟩) ?_ ?_
                                            rotate_left
                                            · intro w'
                                              go_simp
                                              with_reducible rfl
                                            rotate_left
                                            · simp only [Act.put, List.setIfInBounds_toArray, List.set_cons_zero, List.set_cons_succ, i64_w, i32_w]
                                              rfl
                                            refine pure_ (i := 5) (N := some 42) (v := ?_) (a' := ?_) #[true, true, true, false, true, true, false, false, false] rfl rfl (any_of HT_.out (by kernel_rfl)) (fun _ _ _ h => h) (Or.inl ⟨by rfl, ?_⟩) ?_ ?_
                                            rotate_left
                                            · intro w'
                                              go_simp
                                              with_reducible rfl
                                            rotate_left
                                            · simp only [Act.put, List.setIfInBounds_toArray, List.set_cons_zero, List.set_cons_succ, i64_w, i32_w]
                                              rfl
                                            refine pure_ (i := 6) (N := some 43) (v := ?_) (a' := ?_) #[true, true, true, false, true, true, true, false, false] rfl rfl (any_of HT_.out (by kernel_rfl)) (fun _ _ _ h => h) (Or.inl ⟨by rfl, ?_⟩) ?_ ?_
                                            rotate_left
                                            · intro w'
                                              go_simp
                                              with_reducible rfl
                                            rotate_left
                                            · simp only [Act.put, List.setIfInBounds_toArray, List.set_cons_zero, List.set_cons_succ, i64_w, i32_w]
                                              rfl
                                            refine take_ (i := 3) (N := some 40) (v := ?_) (a' := ?_) #[true, true, true, true, true, true, true, false, false] rfl rfl (take_ofW HT_.out HW_.out (by kernel_rfl)) (fun _ _ _ h => h) (Or.inl ⟨by rfl, ?_⟩) hHeld ?_ ?_
                                            rotate_left
                                            · rintro w' ⟨s0, s1, s2, s3, s4, s5, s6, s7, s8, s9⟩
                                              go_simp
                                              with_reducible rfl
                                            rotate_left
                                            · simp only [Act.put, List.setIfInBounds_toArray, List.set_cons_zero, List.set_cons_succ, i64_w, i32_w]
                                              rfl
                                            refine take_ (i := 7) (N := some 44) (v := ?_) (a' := ?_) #[true, true, true, true, true, true, true, true, false] rfl rfl (take_ofW HT_.out HW_.out (by kernel_rfl)) (fun _ _ _ h => h) (Or.inl ⟨by rfl, ?_⟩) hHeld ?_ ?_
                                            rotate_left
                                            · rintro w' ⟨s0, s1, s2, s3, s4, s5, s6, s7, s8, s9⟩
                                              go_simp
                                              with_reducible rfl
                                            rotate_left
                                            · simp only [Act.put, List.setIfInBounds_toArray, List.set_cons_zero, List.set_cons_succ, i64_w, i32_w]
                                              rfl
                                            refine one_ (i := 8) (N := some 45) #[true, true, true, true, true, true, true, true, true] rfl rfl (one_of HT_.out (by kernel_rfl)) (by decide) (fun K hK => ?_)
                                            refine goes_ Try.func21 (by kernel_rfl) rfl #[.agg #[.int .i64 ((rd_T26 t200 x34_1).f0), .int .i64 ((rd_T26 t200 x34_1).f1), .int .i64 ((rd_T26 t200 x34_1).f2), .int .i64 ((rd_T26 t200 x34_1).f3), .slice A207_4 ((rd_T26 t200 x34_1).f4).length c207_4], .agg #[.int .i64 ((rd_T26 t204 x34_1).f0), .int .i64 ((rd_T26 t204 x34_1).f1), .int .i64 ((rd_T26 t204 x34_1).f2), .int .i64 ((rd_T26 t204 x34_1).f3), .slice A208_4 ((rd_T26 t204 x34_1).f4).length c208_4]] (by rfl) rfl rfl (by (try simp only [List.map_toArray, List.map_cons, List.map_nil]); first | done | rfl | (simp only [List.length_drop, List.length_take]; rfl)) ?_
                                            with_reducible refine (darningref4_SameOp.calls ((rd_T26 t200 x34_1).f0) ((rd_T26 t200 x34_1).f1) ((rd_T26 t200 x34_1).f2) ((rd_T26 t200 x34_1).f3) _ _ ((rd_T26 t200 x34_1).f4) ((rd_T26 t204 x34_1).f0) ((rd_T26 t204 x34_1).f1) ((rd_T26 t204 x34_1).f2) ((rd_T26 t204 x34_1).f3) _ _ ((rd_T26 t204 x34_1).f4) false _ ?side1 ?side2 ?side3 ?side4 A24.out).mono ?_
                                            (case side1 => repeat (first | exact (by repeat (first | (with_reducible exact HR207_4.out) | (with_reducible refine Kd.C_alloc ?_ _) | (with_reducible refine Kd.C_drewN ?_ _) | (with_reducible refine Kd.C_drew ?_) | exact HR207_4.out)) | (with_reducible refine Kd.C_alloc ?_ _) | (with_reducible refine Kd.C_drewN ?_ _) | (with_reducible refine Kd.C_drew ?_)))
                                            (case side2 => exact HC207_4.out)
                                            (case side3 => repeat (first | exact (by repeat (first | (with_reducible exact HR208_4.out) | (with_reducible refine Kd.C_alloc ?_ _) | (with_reducible refine Kd.C_drewN ?_ _) | (with_reducible refine Kd.C_drew ?_) | exact HR208_4.out)) | (with_reducible refine Kd.C_alloc ?_ _) | (with_reducible refine Kd.C_drewN ?_ _) | (with_reducible refine Kd.C_drew ?_)))
                                            (case side4 => exact HC208_4.out)
                                            rintro e w36 ⟨rfl, hb⟩
                                            have HS0_ := (hb.cell (World.block_lt_of_cell? _ _ (hHeld.1))).trans (hHeld.1)
                                            have HS1_ := (hb.cell (World.block_lt_of_cell? _ _ (hHeld.2.1))).trans (hHeld.2.1)
                                            have HS2_ := (hb.cell (World.block_lt_of_cell? _ _ (hHeld.2.2.1))).trans (hHeld.2.2.1)
                                            have HS3_ := (hb.cell (World.block_lt_of_cell? _ _ (hHeld.2.2.2.1))).trans (hHeld.2.2.2.1)
                                            have HS4_ := (hb.cell (World.block_lt_of_cell? _ _ (hHeld.2.2.2.2.1))).trans (hHeld.2.2.2.2.1)
                                            have HS5_ := (hb.cell (World.block_lt_of_cell? _ _ (hHeld.2.2.2.2.2.1))).trans (hHeld.2.2.2.2.2.1)
                                            have HS6_ := (hb.cell (World.block_lt_of_cell? _ _ (hHeld.2.2.2.2.2.2.1))).trans (hHeld.2.2.2.2.2.2.1)
                                            have HS7_ := (hb.cell (World.block_lt_of_cell? _ _ (hHeld.2.2.2.2.2.2.2.1))).trans (hHeld.2.2.2.2.2.2.2.1)
                                            have HS8_ := (hb.cell (World.block_lt_of_cell? _ _ (hHeld.2.2.2.2.2.2.2.2.1))).trans (hHeld.2.2.2.2.2.2.2.2.1)
                                            have HS9_ := (hb.cell (World.block_lt_of_cell? _ _ (hHeld.2.2.2.2.2.2.2.2.2))).trans (hHeld.2.2.2.2.2.2.2.2.2)
                                            refine ⟨_, rfl, ?_⟩
                                            have n0_ := Aside0.mk (Kd.S_below (by (with_reducible repeat (first | apply Kd.S_alloc | apply Kd.S_drewN | apply Kd.S_drew)); exact HO_6.out) hb)
                                            have n1_ := Aside0.mk (Kd.S_below (by (with_reducible repeat (first | apply Kd.S_alloc | apply Kd.S_drewN | apply Kd.S_drew)); exact HO_7.out) hb)
                                            have n2_ := Aside0.mk (Kd.R_below (by (with_reducible repeat (first | apply Kd.R_alloc | apply Kd.R_drewN | apply Kd.R_drew)); exact HL207_4.out) hb)
                                            have n3_ := Aside0.mk (Kd.R_below (by (with_reducible repeat (first | apply Kd.R_alloc | apply Kd.R_drewN | apply Kd.R_drew)); exact HL208_4.out) hb)
                                            have n4_ := Aside0.mk (Kd.C_below (by repeat (first | (with_reducible exact HR207_4.out) | (with_reducible refine Kd.C_alloc ?_ _) | (with_reducible refine Kd.C_drewN ?_ _) | (with_reducible refine Kd.C_drew ?_) | exact HR207_4.out)) hb)
                                            have n5_ := Aside0.mk (Kd.C_below (by repeat (first | (with_reducible exact HR208_4.out) | (with_reducible refine Kd.C_alloc ?_ _) | (with_reducible refine Kd.C_drewN ?_ _) | (with_reducible refine Kd.C_drew ?_) | exact HR208_4.out)) hb)
                                            have n6_ := Aside0.mk (below_step (by repeat (first | (with_reducible first | exact HB.out | apply below_alloc | apply pw_below_drewN | apply below_drew1) | exact HB.out)) hb)
                                            clear HO_6
                                            clear HO_7
                                            clear HL207_4
                                            clear HL208_4
                                            clear HR207_4
                                            clear HR208_4
                                            clear HB
                                            have HO_6 := n0_
                                            have HO_7 := n1_
                                            have HL207_4 := n2_
                                            have HL208_4 := n3_
                                            have HR207_4 := n4_
                                            have HR208_4 := n5_
                                            have HB := n6_
                                            clear n0_ n1_ n2_ n3_ n4_ n5_ n6_
                                            (try clear hb)
                                            (try clear hb2)
                                            (try clear hk)
                                            (try clear hi)
                                            refine hK.out _ _ ⟨HS0_, HS1_, HS2_, HS3_, HS4_, HS5_, HS6_, HS7_, HS8_, HS9_⟩ (fun hHeld => ?_)
                                            clear hK K
                                            refine norm_ (a' := ?_) ?_ ?_
                                            rotate_left
                                            · show Act.put _ (some 45) _ = _
                                              simp only [Act.put, List.setIfInBounds_toArray, List.set_cons_zero, List.set_cons_succ, i64_w, i32_w]
                                              rfl
                                            refine done_ (done_of HT_.out (by kernel_rfl)) ?_
                                            try go_wp2
                                            have n0_ := Aside0.mk (Kd.S_drew HO_6.out)
                                            have n1_ := Aside0.mk (Kd.S_drew HO_7.out)
                                            have n2_ := Aside0.mk (Kd.R_drew HL207_4.out)
                                            have n3_ := Aside0.mk (Kd.R_drew HL208_4.out)
                                            have n4_ := Aside0.mk (Kd.C_drew HR207_4.out)
                                            have n5_ := Aside0.mk (Kd.C_drew HR208_4.out)
                                            have n6_ := Aside0.mk (below_drew1 HB.out)
                                            clear HO_6
                                            clear HO_7
                                            clear HL207_4
                                            clear HL208_4
                                            clear HR207_4
                                            clear HR208_4
                                            clear HB
                                            have HO_6 := n0_
                                            have HO_7 := n1_
                                            have HL207_4 := n2_
                                            have HL208_4 := n3_
                                            have HR207_4 := n4_
                                            have HR208_4 := n5_
                                            have HB := n6_
                                            clear n0_ n1_ n2_ n3_ n4_ n5_ n6_
                                            have p210 : 0 ≤ (x34_1 : Int) := of_decide_eq_true (by first | (with_reducible assumption) | assumption)
                                            have q210 : x34_1 < (t204.length : Int) := of_decide_eq_true (by first | (with_reducible assumption) | assumption)
                                            obtain ⟨ad210, A210_4, c210_4, e210, hx210_0, hx210_1, hx210_2, hx210_3, hx210_4, hl210_4, hi210_4⟩ := at_T26 (Kd.S_reads' HO_7.out).2.2 x34_1 p210 q210
                                            obtain rfl : ad208 = ad210 := (by injection e210)
                                            obtain ⟨ce210, hce210, hMe210, hcc210⟩ := Kd.S_get HO_7.out z26 x34_1 p210 (by first | exact q210 | exact of_decide_eq_true (by first | (with_reducible assumption) | assumption) | (have e_ := (Kd.S_reads' HO_7.out).1; omega))
                                            obtain ⟨ve210_4, rfl, ge210_4⟩ := k26_openM hMe210
                                            have hv210_4 := hcc210 4 _ rfl
                                            rw [add_field _ _ 4 (by omega)] at hv210_4
                                            replace hv210_4 := Option.some.inj (hv210_4.symm.trans hx210_4)
                                            rw [hv210_4] at ge210_4
                                            have HL210_4 := Aside0.mk (show Kd.R (Kd.int .u8) 5 _ _ _ _ ((rd_T26 t204 x34_1).f4) from ge210_4)
                                            clear hv210_4 ge210_4
                                            clear hcc210 hce210
                                            have HR210_4 := Aside0.mk hi210_4
                                            have HC210_4 := Aside0.mk hl210_4
                                            clear hi210_4 hl210_4
                                            replace p210 := eq_true p210
                                            replace q210 := eq_true q210
                                            have p211 : 0 ≤ (x34_1 : Int) := of_decide_eq_true (by first | (with_reducible assumption) | assumption)
                                            have q211 : x34_1 < (t200.length : Int) := of_decide_eq_true (by first | (with_reducible assumption) | assumption)
                                            obtain ⟨ad211, A211_4, c211_4, e211, hx211_0, hx211_1, hx211_2, hx211_3, hx211_4, hl211_4, hi211_4⟩ := at_T26 (Kd.S_reads' HO_6.out).2.2 x34_1 p211 q211
                                            obtain rfl : ad207 = ad211 := (by injection e211)
                                            obtain ⟨ce211, hce211, hMe211, hcc211⟩ := Kd.S_get HO_6.out z26 x34_1 p211 (by first | exact q211 | exact of_decide_eq_true (by first | (with_reducible assumption) | assumption) | (have e_ := (Kd.S_reads' HO_6.out).1; omega))
                                            obtain ⟨ve211_4, rfl, ge211_4⟩ := k26_openM hMe211
                                            have hv211_4 := hcc211 4 _ rfl
                                            rw [add_field _ _ 4 (by omega)] at hv211_4
                                            replace hv211_4 := Option.some.inj (hv211_4.symm.trans hx211_4)
                                            rw [hv211_4] at ge211_4
                                            have HL211_4 := Aside0.mk (show Kd.R (Kd.int .u8) 5 _ _ _ _ ((rd_T26 t200 x34_1).f4) from ge211_4)
                                            clear hv211_4 ge211_4
                                            clear hcc211 hce211
                                            have HR211_4 := Aside0.mk hi211_4
                                            have HC211_4 := Aside0.mk hl211_4
                                            clear hi211_4 hl211_4
                                            replace p211 := eq_true p211
                                            replace q211 := eq_true q211
                                            have p212 : 0 ≤ (x34_1 : Int) := of_decide_eq_true (by first | (with_reducible assumption) | assumption)
                                            have q212 : x34_1 < (t204.length : Int) := of_decide_eq_true (by first | (with_reducible assumption) | assumption)
                                            obtain ⟨ad212, A212_4, c212_4, e212, hx212_0, hx212_1, hx212_2, hx212_3, hx212_4, hl212_4, hi212_4⟩ := at_T26 (Kd.S_reads' HO_7.out).2.2 x34_1 p212 q212
                                            obtain rfl : ad208 = ad212 := (by injection e212)
                                            obtain ⟨ce212, hce212, hMe212, hcc212⟩ := Kd.S_get HO_7.out z26 x34_1 p212 (by first | exact q212 | exact of_decide_eq_true (by first | (with_reducible assumption) | assumption) | (have e_ := (Kd.S_reads' HO_7.out).1; omega))
                                            obtain ⟨ve212_4, rfl, ge212_4⟩ := k26_openM hMe212
                                            have hv212_4 := hcc212 4 _ rfl
                                            rw [add_field _ _ 4 (by omega)] at hv212_4
                                            replace hv212_4 := Option.some.inj (hv212_4.symm.trans hx212_4)
                                            rw [hv212_4] at ge212_4
                                            have HL212_4 := Aside0.mk (show Kd.R (Kd.int .u8) 5 _ _ _ _ ((rd_T26 t204 x34_1).f4) from ge212_4)
                                            clear hv212_4 ge212_4
                                            clear hcc212 hce212
                                            have HR212_4 := Aside0.mk hi212_4
                                            have HC212_4 := Aside0.mk hl212_4
                                            clear hi212_4 hl212_4
                                            replace p212 := eq_true p212
                                            replace q212 := eq_true q212
                                            have ea_ := Option.some.inj (hx210_4.symm.trans hx212_4)
                                            injection ea_ with ea_ en_ ec_
                                            subst ea_
                                            subst ec_
                                            clear en_
                                            have p213 : 0 ≤ (x34_1 : Int) := of_decide_eq_true (by first | (with_reducible assumption) | assumption)
                                            have q213 : x34_1 < (t200.length : Int) := of_decide_eq_true (by first | (with_reducible assumption) | assumption)
                                            obtain ⟨ad213, A213_4, c213_4, e213, hx213_0, hx213_1, hx213_2, hx213_3, hx213_4, hl213_4, hi213_4⟩ := at_T26 (Kd.S_reads' HO_6.out).2.2 x34_1 p213 q213
                                            obtain rfl : ad207 = ad213 := (by injection e213)
                                            obtain ⟨ce213, hce213, hMe213, hcc213⟩ := Kd.S_get HO_6.out z26 x34_1 p213 (by first | exact q213 | exact of_decide_eq_true (by first | (with_reducible assumption) | assumption) | (have e_ := (Kd.S_reads' HO_6.out).1; omega))
                                            obtain ⟨ve213_4, rfl, ge213_4⟩ := k26_openM hMe213
                                            have hv213_4 := hcc213 4 _ rfl
                                            rw [add_field _ _ 4 (by omega)] at hv213_4
                                            replace hv213_4 := Option.some.inj (hv213_4.symm.trans hx213_4)
                                            rw [hv213_4] at ge213_4
                                            have HL213_4 := Aside0.mk (show Kd.R (Kd.int .u8) 5 _ _ _ _ ((rd_T26 t200 x34_1).f4) from ge213_4)
                                            clear hv213_4 ge213_4
                                            clear hcc213 hce213
                                            have HR213_4 := Aside0.mk hi213_4
                                            have HC213_4 := Aside0.mk hl213_4
                                            clear hi213_4 hl213_4
                                            replace p213 := eq_true p213
                                            replace q213 := eq_true q213
                                            have ea_ := Option.some.inj (hx211_4.symm.trans hx213_4)
                                            injection ea_ with ea_ en_ ec_
                                            subst ea_
                                            subst ec_
                                            clear en_
                                            have p214 : 0 ≤ (x34_1 : Int) := of_decide_eq_true (by first | (with_reducible assumption) | assumption)
                                            have q214 : x34_1 < (t200.length : Int) := of_decide_eq_true (by first | (with_reducible assumption) | assumption)
                                            obtain ⟨ad214, A214_4, c214_4, e214, hx214_0, hx214_1, hx214_2, hx214_3, hx214_4, hl214_4, hi214_4⟩ := at_T26 (Kd.S_reads' HO_6.out).2.2 x34_1 p214 q214
                                            obtain rfl : ad207 = ad214 := (by injection e214)
                                            obtain ⟨ce214, hce214, hMe214, hcc214⟩ := Kd.S_get HO_6.out z26 x34_1 p214 (by first | exact q214 | exact of_decide_eq_true (by first | (with_reducible assumption) | assumption) | (have e_ := (Kd.S_reads' HO_6.out).1; omega))
                                            obtain ⟨ve214_4, rfl, ge214_4⟩ := k26_openM hMe214
                                            have hv214_4 := hcc214 4 _ rfl
                                            rw [add_field _ _ 4 (by omega)] at hv214_4
                                            replace hv214_4 := Option.some.inj (hv214_4.symm.trans hx214_4)
                                            rw [hv214_4] at ge214_4
                                            have HL214_4 := Aside0.mk (show Kd.R (Kd.int .u8) 5 _ _ _ _ ((rd_T26 t200 x34_1).f4) from ge214_4)
                                            clear hv214_4 ge214_4
                                            clear hcc214 hce214
                                            have HR214_4 := Aside0.mk hi214_4
                                            have HC214_4 := Aside0.mk hl214_4
                                            clear hi214_4 hl214_4
                                            replace p214 := eq_true p214
                                            replace q214 := eq_true q214
                                            have ea_ := Option.some.inj (hx211_4.symm.trans hx214_4)
                                            injection ea_ with ea_ en_ ec_
                                            subst ea_
                                            subst ec_
                                            clear en_
                                            have p215 : 0 ≤ (x34_1 : Int) := of_decide_eq_true (by first | (with_reducible assumption) | assumption)
                                            have q215 : x34_1 < (t204.length : Int) := of_decide_eq_true (by first | (with_reducible assumption) | assumption)
                                            obtain ⟨ad215, A215_4, c215_4, e215, hx215_0, hx215_1, hx215_2, hx215_3, hx215_4, hl215_4, hi215_4⟩ := at_T26 (Kd.S_reads' HO_7.out).2.2 x34_1 p215 q215
                                            obtain rfl : ad208 = ad215 := (by injection e215)
                                            obtain ⟨ce215, hce215, hMe215, hcc215⟩ := Kd.S_get HO_7.out z26 x34_1 p215 (by first | exact q215 | exact of_decide_eq_true (by first | (with_reducible assumption) | assumption) | (have e_ := (Kd.S_reads' HO_7.out).1; omega))
                                            obtain ⟨ve215_4, rfl, ge215_4⟩ := k26_openM hMe215
                                            have hv215_4 := hcc215 4 _ rfl
                                            rw [add_field _ _ 4 (by omega)] at hv215_4
                                            replace hv215_4 := Option.some.inj (hv215_4.symm.trans hx215_4)
                                            rw [hv215_4] at ge215_4
                                            have HL215_4 := Aside0.mk (show Kd.R (Kd.int .u8) 5 _ _ _ _ ((rd_T26 t204 x34_1).f4) from ge215_4)
                                            clear hv215_4 ge215_4
                                            clear hcc215 hce215
                                            have HR215_4 := Aside0.mk hi215_4
                                            have HC215_4 := Aside0.mk hl215_4
                                            clear hi215_4 hl215_4
                                            replace p215 := eq_true p215
                                            replace q215 := eq_true q215
                                            have ea_ := Option.some.inj (hx210_4.symm.trans hx215_4)
                                            injection ea_ with ea_ en_ ec_
                                            subst ea_
                                            subst ec_
                                            clear en_
                                            have q38 : ((((rd_T26 t204 x34_1).f4).length : Int) : Int) ≤ ((((rd_T26 t200 x34_1).f4).length : Int) : Int) := of_decide_eq_true (by first | (with_reducible assumption) | assumption)
                                            obtain ⟨i038, hi038, _, hsz38, _⟩ := info_parts info5
                                            have hroom38 : ((rd_T26 t200 x34_1).f4).length ≤ c211_4 := HC214_4.out
                                            have hC38 : Kd.C (Kd.int .u8) _ A211_4 ((rd_T26 t200 x34_1).f4).length ((rd_T26 t200 x34_1).f4) := (by repeat (first | (with_reducible exact HR214_4.out) | (with_reducible refine Kd.C_alloc ?_ _) | (with_reducible refine Kd.C_drewN ?_ _) | (with_reducible refine Kd.C_drew ?_) | exact HR214_4.out))
                                            have hcut38 := cut_to (P := Try.prog) 22 5 .i64 Try.underlying22 hi038 A211_4 ((rd_T26 t200 x34_1).f4).length c211_4 (((rd_T26 t204 x34_1).f4).length : Int) (of_decide_eq_true (by first | (with_reducible assumption) | assumption)) q38 hroom38
                                            have hr38 := Kd.C_take (m := ((((rd_T26 t204 x34_1).f4).length : Int) : Int).toNat) hC38 (by omega)
                                            have hy38 : y216.length = ((((rd_T26 t204 x34_1).f4).length : Int) : Int).toNat := (by rw [Ny216.out, List.length_take]; omega)
                                            rw [← Ny216.out] at hr38
                                            rw [← hy38] at hcut38
                                            have HR219 := Aside0.mk hr38
                                            have HC219 := Aside0.mk (show y216.length ≤ c211_4 from by omega)
                                            clear hr38 hC38 hroom38 hi038 hsz38
                                            have KY38 := Aside0.mk hy38
                                            clear hy38
                                            replace q38 := eq_true q38
                                            have p220 : 0 ≤ (x34_1 : Int) := of_decide_eq_true (by first | (with_reducible assumption) | assumption)
                                            have q220 : x34_1 < (t204.length : Int) := of_decide_eq_true (by first | (with_reducible assumption) | assumption)
                                            obtain ⟨ad220, A220_4, c220_4, e220, hx220_0, hx220_1, hx220_2, hx220_3, hx220_4, hl220_4, hi220_4⟩ := at_T26 (Kd.S_reads' HO_7.out).2.2 x34_1 p220 q220
                                            obtain rfl : ad208 = ad220 := (by injection e220)
                                            obtain ⟨ce220, hce220, hMe220, hcc220⟩ := Kd.S_get HO_7.out z26 x34_1 p220 (by first | exact q220 | exact of_decide_eq_true (by first | (with_reducible assumption) | assumption) | (have e_ := (Kd.S_reads' HO_7.out).1; omega))
                                            obtain ⟨ve220_4, rfl, ge220_4⟩ := k26_openM hMe220
                                            have hv220_4 := hcc220 4 _ rfl
                                            rw [add_field _ _ 4 (by omega)] at hv220_4
                                            replace hv220_4 := Option.some.inj (hv220_4.symm.trans hx220_4)
                                            rw [hv220_4] at ge220_4
                                            have HL220_4 := Aside0.mk (show Kd.R (Kd.int .u8) 5 _ _ _ _ ((rd_T26 t204 x34_1).f4) from ge220_4)
                                            clear hv220_4 ge220_4
                                            clear hcc220 hce220
                                            have HR220_4 := Aside0.mk hi220_4
                                            have HC220_4 := Aside0.mk hl220_4
                                            clear hi220_4 hl220_4
                                            replace p220 := eq_true p220
                                            replace q220 := eq_true q220
                                            have ea_ := Option.some.inj (hx210_4.symm.trans hx220_4)
                                            injection ea_ with ea_ en_ ec_
                                            subst ea_
                                            subst ec_
                                            clear en_
                                            have hcv39 := Kd.C_string (P := Try.prog) (A := A211_4) (c := c211_4) Try.underlying22 Try.underlying5 Try.underlying9 (by repeat (first | (with_reducible exact HR219.out) | (with_reducible refine Kd.C_alloc ?_ _) | (with_reducible refine Kd.C_drewN ?_ _) | (with_reducible refine Kd.C_drew ?_) | exact HR219.out))
                                            have hcv40 := Kd.C_string (P := Try.prog) (A := A210_4) (c := c210_4) Try.underlying22 Try.underlying5 Try.underlying9 (by repeat (first | (with_reducible exact HR220_4.out) | (with_reducible refine Kd.C_alloc ?_ _) | (with_reducible refine Kd.C_drewN ?_ _) | (with_reducible refine Kd.C_drew ?_) | exact HR220_4.out))
                                            refine start_ (n := 58) (S := fun w' => w'.cell? (ad208.add ((x34_1).toNat * 5)) = some (.int .i64 ((rd_T26 t204 x34_1).f0)) ∧ w'.cell? ⟨(ad208.add ((x34_1).toNat * 5)).block, (ad208.add ((x34_1).toNat * 5)).off + 1, none⟩ = some (.int .i64 ((rd_T26 t204 x34_1).f1)) ∧ w'.cell? ⟨(ad208.add ((x34_1).toNat * 5)).block, (ad208.add ((x34_1).toNat * 5)).off + 2, none⟩ = some (.int .i64 ((rd_T26 t204 x34_1).f2)) ∧ w'.cell? ⟨(ad208.add ((x34_1).toNat * 5)).block, (ad208.add ((x34_1).toNat * 5)).off + 3, none⟩ = some (.int .i64 ((rd_T26 t204 x34_1).f3)) ∧ w'.cell? ⟨(ad208.add ((x34_1).toNat * 5)).block, (ad208.add ((x34_1).toNat * 5)).off + 4, none⟩ = some (.slice A210_4 ((rd_T26 t204 x34_1).f4).length c210_4) ∧ w'.cell? (ad207.add ((x34_1).toNat * 5)) = some (.int .i64 ((rd_T26 t200 x34_1).f0)) ∧ w'.cell? ⟨(ad207.add ((x34_1).toNat * 5)).block, (ad207.add ((x34_1).toNat * 5)).off + 1, none⟩ = some (.int .i64 ((rd_T26 t200 x34_1).f1)) ∧ w'.cell? ⟨(ad207.add ((x34_1).toNat * 5)).block, (ad207.add ((x34_1).toNat * 5)).off + 2, none⟩ = some (.int .i64 ((rd_T26 t200 x34_1).f2)) ∧ w'.cell? ⟨(ad207.add ((x34_1).toNat * 5)).block, (ad207.add ((x34_1).toNat * 5)).off + 3, none⟩ = some (.int .i64 ((rd_T26 t200 x34_1).f3)) ∧ w'.cell? ⟨(ad207.add ((x34_1).toNat * 5)).block, (ad207.add ((x34_1).toNat * 5)).off + 4, none⟩ = some (.slice A211_4 ((rd_T26 t200 x34_1).f4).length c211_4) ∧ w'.cell? (ad208.add ((x34_1).toNat * 5)) = some (.int .i64 ((rd_T26 t204 x34_1).f0)) ∧ w'.cell? ⟨(ad208.add ((x34_1).toNat * 5)).block, (ad208.add ((x34_1).toNat * 5)).off + 1, none⟩ = some (.int .i64 ((rd_T26 t204 x34_1).f1)) ∧ w'.cell? ⟨(ad208.add ((x34_1).toNat * 5)).block, (ad208.add ((x34_1).toNat * 5)).off + 2, none⟩ = some (.int .i64 ((rd_T26 t204 x34_1).f2)) ∧ w'.cell? ⟨(ad208.add ((x34_1).toNat * 5)).block, (ad208.add ((x34_1).toNat * 5)).off + 3, none⟩ = some (.int .i64 ((rd_T26 t204 x34_1).f3)) ∧ w'.cell? ⟨(ad208.add ((x34_1).toNat * 5)).block, (ad208.add ((x34_1).toNat * 5)).off + 4, none⟩ = some (.slice A210_4 ((rd_T26 t204 x34_1).f4).length c210_4) ∧ w'.cell? (ad207.add ((x34_1).toNat * 5)) = some (.int .i64 ((rd_T26 t200 x34_1).f0)) ∧ w'.cell? ⟨(ad207.add ((x34_1).toNat * 5)).block, (ad207.add ((x34_1).toNat * 5)).off + 1, none⟩ = some (.int .i64 ((rd_T26 t200 x34_1).f1)) ∧ w'.cell? ⟨(ad207.add ((x34_1).toNat * 5)).block, (ad207.add ((x34_1).toNat * 5)).off + 2, none⟩ = some (.int .i64 ((rd_T26 t200 x34_1).f2)) ∧ w'.cell? ⟨(ad207.add ((x34_1).toNat * 5)).block, (ad207.add ((x34_1).toNat * 5)).off + 3, none⟩ = some (.int .i64 ((rd_T26 t200 x34_1).f3)) ∧ w'.cell? ⟨(ad207.add ((x34_1).toNat * 5)).block, (ad207.add ((x34_1).toNat * 5)).off + 4, none⟩ = some (.slice A211_4 ((rd_T26 t200 x34_1).f4).length c211_4) ∧ w'.cell? (ad207.add ((x34_1).toNat * 5)) = some (.int .i64 ((rd_T26 t200 x34_1).f0)) ∧ w'.cell? ⟨(ad207.add ((x34_1).toNat * 5)).block, (ad207.add ((x34_1).toNat * 5)).off + 1, none⟩ = some (.int .i64 ((rd_T26 t200 x34_1).f1)) ∧ w'.cell? ⟨(ad207.add ((x34_1).toNat * 5)).block, (ad207.add ((x34_1).toNat * 5)).off + 2, none⟩ = some (.int .i64 ((rd_T26 t200 x34_1).f2)) ∧ w'.cell? ⟨(ad207.add ((x34_1).toNat * 5)).block, (ad207.add ((x34_1).toNat * 5)).off + 3, none⟩ = some (.int .i64 ((rd_T26 t200 x34_1).f3)) ∧ w'.cell? ⟨(ad207.add ((x34_1).toNat * 5)).block, (ad207.add ((x34_1).toNat * 5)).off + 4, none⟩ = some (.slice A211_4 ((rd_T26 t200 x34_1).f4).length c211_4) ∧ w'.cell? (ad208.add ((x34_1).toNat * 5)) = some (.int .i64 ((rd_T26 t204 x34_1).f0)) ∧ w'.cell? ⟨(ad208.add ((x34_1).toNat * 5)).block, (ad208.add ((x34_1).toNat * 5)).off + 1, none⟩ = some (.int .i64 ((rd_T26 t204 x34_1).f1)) ∧ w'.cell? ⟨(ad208.add ((x34_1).toNat * 5)).block, (ad208.add ((x34_1).toNat * 5)).off + 2, none⟩ = some (.int .i64 ((rd_T26 t204 x34_1).f2)) ∧ w'.cell? ⟨(ad208.add ((x34_1).toNat * 5)).block, (ad208.add ((x34_1).toNat * 5)).off + 3, none⟩ = some (.int .i64 ((rd_T26 t204 x34_1).f3)) ∧ w'.cell? ⟨(ad208.add ((x34_1).toNat * 5)).block, (ad208.add ((x34_1).toNat * 5)).off + 4, none⟩ = some (.slice A210_4 ((rd_T26 t204 x34_1).f4).length c210_4) ∧ w'.cell? (ad208.add ((x34_1).toNat * 5)) = some (.int .i64 ((rd_T26 t204 x34_1).f0)) ∧ w'.cell? ⟨(ad208.add ((x34_1).toNat * 5)).block, (ad208.add ((x34_1).toNat * 5)).off + 1, none⟩ = some (.int .i64 ((rd_T26 t204 x34_1).f1)) ∧ w'.cell? ⟨(ad208.add ((x34_1).toNat * 5)).block, (ad208.add ((x34_1).toNat * 5)).off + 2, none⟩ = some (.int .i64 ((rd_T26 t204 x34_1).f2)) ∧ w'.cell? ⟨(ad208.add ((x34_1).toNat * 5)).block, (ad208.add ((x34_1).toNat * 5)).off + 3, none⟩ = some (.int .i64 ((rd_T26 t204 x34_1).f3)) ∧ w'.cell? ⟨(ad208.add ((x34_1).toNat * 5)).block, (ad208.add ((x34_1).toNat * 5)).off + 4, none⟩ = some (.slice A210_4 ((rd_T26 t204 x34_1).f4).length c210_4) ∧ Sem.run Try.prog (convert 22 9 (.slice A211_4 y216.length c211_4)) w' = .ok (.string (strOfNums y216)) w' ∧ Sem.run Try.prog (convert 22 9 (.slice A210_4 ((rd_T26 t204 x34_1).f4).length c210_4)) w' = .ok (.string (strOfNums ((rd_T26 t204 x34_1).f4))) w') (ds := []) #[false, false, false, false, false, false, false, false, false, false, false, false, false, false, false, false, false, false, false, false, false, false, false, false, false, false, false, false, false, false, false, false, false, false, false, false, false, false, false, false, false, false, false, false, false, false, false, false, false, false, false, false, false, false, false, false, false, false] (by kernel_rfl) rfl rfl ⟨hx210_0, hx210_1, hx210_2, hx210_3, hx210_4, hx211_0, hx211_1, hx211_2, hx211_3, hx211_4, hx212_0, hx212_1, hx212_2, hx212_3, hx212_4, hx213_0, hx213_1, hx213_2, hx213_3, hx213_4, hx214_0, hx214_1, hx214_2, hx214_3, hx214_4, hx215_0, hx215_1, hx215_2, hx215_3, hx215_4, hx220_0, hx220_1, hx220_2, hx220_3, hx220_4, hcv39, hcv40⟩ (fun hHeld => ?_); refine with_tabW darninglaw23_CodeCut.tab11 darninglaw23_CodeCut.bits11 (fun HT_ HW_ => ?_)
                                            generalize w36.drew = w37 at HO_6 HO_7 HL207_4 HL208_4 HR207_4 HR208_4 HB HL210_4 HL211_4 HL212_4 HL213_4 HL214_4 HL215_4 HL220_4 HR210_4 HR211_4 HR212_4 HR213_4 HR214_4 HR215_4 HR219 HR220_4 hx210_0 hx210_1 hx210_2 hx210_3 hx210_4 hx211_0 hx211_1 hx211_2 hx211_3 hx211_4 hx212_0 hx212_1 hx212_2 hx212_3 hx212_4 hx213_0 hx213_1 hx213_2 hx213_3 hx213_4 hx214_0 hx214_1 hx214_2 hx214_3 hx214_4 hx215_0 hx215_1 hx215_2 hx215_3 hx215_4 hx220_0 hx220_1 hx220_2 hx220_3 hx220_4 hHeld ⊢
                                            refine pure_ (i := 0) (N := some 46) (v := ?_) (a' := ?_) #[true, false, false, false, false, false, false, false, false, false, false, false, false, false, false, false, false, false, false, false, false, false, false, false, false, false, false, false, false, false, false, false, false, false, false, false, false, false, false, false, false, false, false, false, false, false, false, false, false, false, false, false, false, false, false, false, false, false] rfl rfl (any_of HT_.out (by kernel_rfl)) (fun _ _ _ h => h) (Or.inl ⟨by rfl, ?_⟩) ?_ ?_
                                            rotate_left
                                            · intro w'
                                              go_simp
                                              with_reducible rfl
                                            rotate_left
                                            · simp only [Act.put, List.setIfInBounds_toArray, List.set_cons_zero, List.set_cons_succ, i64_w, i32_w]
                                              rfl
                                            refine pure_ (i := 1) (N := some 47) (v := ?_) (a' := ?_) #[true, true, false, false, false, false, false, false, false, false, false, false, false, false, false, false, false, false, false, false, false, false, false, false, false, false, false, false, false, false, false, false, false, false, false, false, false, false, false, false, false, false, false, false, false, false, false, false, false, false, false, false, false, false, false, false, false, false] rfl rfl (any_of HT_.out (by kernel_rfl)) (fun _ _ _ h => h) (Or.inl ⟨by rfl, ?_⟩) ?_ ?_
                                            rotate_left
                                            · intro w'
                                              go_simp
                                              with_reducible rfl
                                            rotate_left
                                            · simp only [Act.put, List.setIfInBounds_toArray, List.set_cons_zero, List.set_cons_succ, i64_w, i32_w]
                                              rfl
                                            refine pure_ (i := 2) (N := some 48) (v := ?_) (a' := ?_) #[true, true, true, false, false, false, false, false, false, false, false, false, false, false, false, false, false, false, false, false, false, false, false, false, false, false, false, false, false, false, false, false, false, false, false, false, false, false, false, false, false, false, false, false, false, false, false, false, false, false, false, false, false, false, false, false, false, false] rfl rfl (any_of HT_.out (by kernel_rfl)) (fun _ _ _ h => h) (Or.inl ⟨by rfl, ?_⟩) ?_ ?_
                                            rotate_left
                                            · intro w'
                                              go_simp
                                              with_reducible rfl
                                            rotate_left
                                            · simp only [Act.put, List.setIfInBounds_toArray, List.set_cons_zero, List.set_cons_succ, i64_w, i32_w]
                                              rfl
                                            refine pure_ (i := 3) (N := some 49) (v := ?_) (a' := ?_) #[true, true, true, true, false, false, false, false, false, false, false, false, false, false, false, false, false, false, false, false, false, false, false, false, false, false, false, false, false, false, false, false, false, false, false, false, false, false, false, false, false, false, false, false, false, false, false, false, false, false, false, false, false, false, false, false, false, false] rfl rfl (any_of HT_.out (by kernel_rfl)) (fun _ _ _ h => h) (Or.inl ⟨by rfl, ?_⟩) ?_ ?_
                                            rotate_left
                                            · intro w'
                                              go_simp
                                              with_reducible rfl
                                            rotate_left
                                            · simp only [Act.put, List.setIfInBounds_toArray, List.set_cons_zero, List.set_cons_succ, i64_w, i32_w]
                                              rfl
                                            refine pure_ (i := 4) (N := some 50) (v := ?_) (a' := ?_) #[true, true, true, true, true, false, false, false, false, false, false, false, false, false, false, false, false, false, false, false, false, false, false, false, false, false, false, false, false, false, false, false, false, false, false, false, false, false, false, false, false, false, false, false, false, false, false, false, false, false, false, false, false, false, false, false, false, false] rfl rfl (any_of HT_.out (by kernel_rfl)) (fun _ _ _ h => h) (Or.inl ⟨by rfl, ?_⟩) ?_ ?_
                                            rotate_left
                                            · intro w'
                                              go_simp
                                              with_reducible rfl
                                            rotate_left
                                            · simp only [Act.put, List.setIfInBounds_toArray, List.set_cons_zero, List.set_cons_succ, i64_w, i32_w]
                                              rfl
                                            refine pure_ (i := 5) (N := some 51) (v := ?_) (a' := ?_) #[true, true, true, true, true, true, false, false, false, false, false, false, false, false, false, false, false, false, false, false, false, false, false, false, false, false, false, false, false, false, false, false, false, false, false, false, false, false, false, false, false, false, false, false, false, false, false, false, false, false, false, false, false, false, false, false, false, false] rfl rfl (any_of HT_.out (by kernel_rfl)) (fun _ _ _ h => h) (Or.inl ⟨by rfl, ?_⟩) ?_ ?_
                                            rotate_left
                                            · intro w'
                                              go_simp
                                              with_reducible rfl
                                            rotate_left
                                            · simp only [Act.put, List.setIfInBounds_toArray, List.set_cons_zero, List.set_cons_succ, i64_w, i32_w]
                                              rfl
                                            refine pure_ (i := 6) (N := some 52) (v := ?_) (a' := ?_) #[true, true, true, true, true, true, true, false, false, false, false, false, false, false, false, false, false, false, false, false, false, false, false, false, false, false, false, false, false, false, false, false, false, false, false, false, false, false, false, false, false, false, false, false, false, false, false, false, false, false, false, false, false, false, false, false, false, false] rfl rfl (any_of HT_.out (by kernel_rfl)) (fun _ _ _ h => h) (Or.inl ⟨by rfl, ?_⟩) ?_ ?_
                                            rotate_left
                                            · intro w'
                                              go_simp
                                              with_reducible rfl
                                            rotate_left
                                            · simp only [Act.put, List.setIfInBounds_toArray, List.set_cons_zero, List.set_cons_succ, i64_w, i32_w]
                                              rfl
                                            refine pure_ (i := 7) (N := some 53) (v := ?_) (a' := ?_) #[true, true, true, true, true, true, true, true, false, false, false, false, false, false, false, false, false, false, false, false, false, false, false, false, false, false, false, false, false, false, false, false, false, false, false, false, false, false, false, false, false, false, false, false, false, false, false, false, false, false, false, false, false, false, false, false, false, false] rfl rfl (any_of HT_.out (by kernel_rfl)) (fun _ _ _ h => h) (Or.inl ⟨by rfl, ?_⟩) ?_ ?_
                                            rotate_left
                                            · intro w'
                                              go_simp
                                              with_reducible rfl
                                            rotate_left
                                            · simp only [Act.put, List.setIfInBounds_toArray, List.set_cons_zero, List.set_cons_succ, i64_w, i32_w]
                                              rfl
                                            refine pure_ (i := 8) (N := some 54) (v := ?_) (a' := ?_) #[true, true, true, true, true, true, true, true, true, false, false, false, false, false, false, false, false, false, false, false, false, false, false, false, false, false, false, false, false, false, false, false, false, false, false, false, false, false, false, false, false, false, false, false, false, false, false, false, false, false, false, false, false, false, false, false, false, false] rfl rfl (any_of HT_.out (by kernel_rfl)) (fun _ _ _ h => h) (Or.inl ⟨by rfl, ?_⟩) ?_ ?_
                                            rotate_left
                                            · intro w'
                                              go_simp
                                              with_reducible rfl
                                            rotate_left
                                            · simp only [Act.put, List.setIfInBounds_toArray, List.set_cons_zero, List.set_cons_succ, i64_w, i32_w]
                                              rfl
                                            refine pure_ (i := 9) (N := some 55) (v := ?_) (a' := ?_) #[true, true, true, true, true, true, true, true, true, true, false, false, false, false, false, false, false, false, false, false, false, false, false, false, false, false, false, false, false, false, false, false, false, false, false, false, false, false, false, false, false, false, false, false, false, false, false, false, false, false, false, false, false, false, false, false, false, false] rfl rfl (any_of HT_.out (by kernel_rfl)) (fun _ _ _ h => h) (Or.inl ⟨by rfl, ?_⟩) ?_ ?_
                                            rotate_left
                                            · intro w'
                                              go_simp
                                              with_reducible rfl
                                            rotate_left
                                            · simp only [Act.put, List.setIfInBounds_toArray, List.set_cons_zero, List.set_cons_succ, i64_w, i32_w]
                                              rfl
                                            refine take_ (i := 10) (N := some 56) (v := ?_) (a' := ?_) #[true, true, true, true, true, true, true, true, true, true, true, false, false, false, false, false, false, false, false, false, false, false, false, false, false, false, false, false, false, false, false, false, false, false, false, false, false, false, false, false, false, false, false, false, false, false, false, false, false, false, false, false, false, false, false, false, false, false] rfl rfl (take_ofW HT_.out HW_.out (by kernel_rfl)) (fun _ _ _ h => h) (Or.inl ⟨by rfl, ?_⟩) hHeld ?_ ?_
                                            rotate_left
                                            · rintro w' ⟨s0, s1, s2, s3, s4, s5, s6, s7, s8, s9, s10, s11, s12, s13, s14, s15, s16, s17, s18, s19, s20, s21, s22, s23, s24, s25, s26, s27, s28, s29, s30, s31, s32, s33, s34, s35, s36⟩
                                              go_simp
                                              with_reducible rfl
                                            rotate_left
                                            · simp only [Act.put, List.setIfInBounds_toArray, List.set_cons_zero, List.set_cons_succ, i64_w, i32_w]
                                              rfl
                                            refine pure_ (i := 11) (N := some 57) (v := ?_) (a' := ?_) #[true, true, true, true, true, true, true, true, true, true, true, true, false, false, false, false, false, false, false, false, false, false, false, false, false, false, false, false, false, false, false, false, false, false, false, false, false, false, false, false, false, false, false, false, false, false, false, false, false, false, false, false, false, false, false, false, false, false] rfl rfl (any_of HT_.out (by kernel_rfl)) (fun _ _ _ h => h) (Or.inl ⟨by rfl, ?_⟩) ?_ ?_
                                            rotate_left
                                            · intro w'
                                              go_simp
                                              with_reducible rfl
                                            rotate_left
                                            · simp only [Act.put, List.setIfInBounds_toArray, List.set_cons_zero, List.set_cons_succ, i64_w, i32_w]
                                              rfl
                                            refine pure_ (i := 12) (N := some 58) (v := ?_) (a' := ?_) #[true, true, true, true, true, true, true, true, true, true, true, true, true, false, false, false, false, false, false, false, false, false, false, false, false, false, false, false, false, false, false, false, false, false, false, false, false, false, false, false, false, false, false, false, false, false, false, false, false, false, false, false, false, false, false, false, false, false] rfl rfl (any_of HT_.out (by kernel_rfl)) (fun _ _ _ h => h) (Or.inl ⟨by rfl, ?_⟩) ?_ ?_
                                            rotate_left
                                            · intro w'
                                              go_simp
                                              with_reducible rfl
                                            rotate_left
                                            · simp only [Act.put, List.setIfInBounds_toArray, List.set_cons_zero, List.set_cons_succ, i64_w, i32_w]
                                              rfl
                                            refine pure_ (i := 13) (N := some 59) (v := ?_) (a' := ?_) #[true, true, true, true, true, true, true, true, true, true, true, true, true, true, false, false, false, false, false, false, false, false, false, false, false, false, false, false, false, false, false, false, false, false, false, false, false, false, false, false, false, false, false, false, false, false, false, false, false, false, false, false, false, false, false, false, false, false] rfl rfl (any_of HT_.out (by kernel_rfl)) (fun _ _ _ h => h) (Or.inl ⟨by rfl, ?_⟩) ?_ ?_
                                            rotate_left
                                            · intro w'
                                              go_simp
                                              with_reducible rfl
                                            rotate_left
                                            · simp only [Act.put, List.setIfInBounds_toArray, List.set_cons_zero, List.set_cons_succ, i64_w, i32_w]
                                              rfl
                                            refine pure_ (i := 14) (N := some 60) (v := ?_) (a' := ?_) #[true, true, true, true, true, true, true, true, true, true, true, true, true, true, true, false, false, false, false, false, false, false, false, false, false, false, false, false, false, false, false, false, false, false, false, false, false, false, false, false, false, false, false, false, false, false, false, false, false, false, false, false, false, false, false, false, false, false] rfl rfl (any_of HT_.out (by kernel_rfl)) (fun _ _ _ h => h) (Or.inl ⟨by rfl, ?_⟩) ?_ ?_
                                            rotate_left
                                            · intro w'
                                              go_simp
                                              with_reducible rfl
                                            rotate_left
                                            · simp only [Act.put, List.setIfInBounds_toArray, List.set_cons_zero, List.set_cons_succ, i64_w, i32_w]
                                              rfl
                                            refine pure_ (i := 15) (N := some 61) (v := ?_) (a' := ?_) #[true, true, true, true, true, true, true, true, true, true, true, true, true, true, true, true, false, false, false, false, false, false, false, false, false, false, false, false, false, false, false, false, false, false, false, false, false, false, false, false, false, false, false, false, false, false, false, false, false, false, false, false, false, false, false, false, false, false] rfl rfl (any_of HT_.out (by kernel_rfl)) (fun _ _ _ h => h) (Or.inl ⟨by rfl, ?_⟩) ?_ ?_
                                            rotate_left
                                            · intro w'
                                              go_simp
                                              with_reducible rfl
                                            rotate_left
                                            · simp only [Act.put, List.setIfInBounds_toArray, List.set_cons_zero, List.set_cons_succ, i64_w, i32_w]
                                              rfl
                                            refine pure_ (i := 16) (N := some 62) (v := ?_) (a' := ?_) #[true, true, true, true, true, true, true, true, true, true, true, true, true, true, true, true, true, false, false, false, false, false, false, false, false, false, false, false, false, false, false, false, false, false, false, false, false, false, false, false, false, false, false, false, false, false, false, false, false, false, false, false, false, false, false, false, false, false] rfl rfl (any_of HT_.out (by kernel_rfl)) (fun _ _ _ h => h) (Or.inl ⟨by rfl, ?_⟩) ?_ ?_
                                            rotate_left
                                            · intro w'
                                              go_simp
                                              with_reducible rfl
                                            rotate_left
                                            · simp only [Act.put, List.setIfInBounds_toArray, List.set_cons_zero, List.set_cons_succ, i64_w, i32_w]
                                              rfl
                                            refine pure_ (i := 17) (N := some 63) (v := ?_) (a' := ?_) #[true, true, true, true, true, true, true, true, true, true, true, true, true, true, true, true, true, true, false, false, false, false, false, false, false, false, false, false, false, false, false, false, false, false, false, false, false, false, false, false, false, false, false, false, false, false, false, false, false, false, false, false, false, false, false, false, false, false] rfl rfl (any_of HT_.out (by kernel_rfl)) (fun _ _ _ h => h) (Or.inl ⟨by rfl, ?_⟩) ?_ ?_
                                            rotate_left
                                            · intro w'
                                              go_simp
                                              with_reducible rfl
                                            rotate_left
                                            · simp only [Act.put, List.setIfInBounds_toArray, List.set_cons_zero, List.set_cons_succ, i64_w, i32_w]
                                              rfl
                                            refine take_ (i := 18) (N := some 64) (v := ?_) (a' := ?_) #[true, true, true, true, true, true, true, true, true, true, true, true, true, true, true, true, true, true, true, false, false, false, false, false, false, false, false, false, false, false, false, false, false, false, false, false, false, false, false, false, false, false, false, false, false, false, false, false, false, false, false, false, false, false, false, false, false, false] rfl rfl (take_ofW HT_.out HW_.out (by kernel_rfl)) (fun _ _ _ h => h) (Or.inl ⟨by rfl, ?_⟩) hHeld ?_ ?_
                                            rotate_left
                                            · rintro w' ⟨s0, s1, s2, s3, s4, s5, s6, s7, s8, s9, s10, s11, s12, s13, s14, s15, s16, s17, s18, s19, s20, s21, s22, s23, s24, s25, s26, s27, s28, s29, s30, s31, s32, s33, s34, s35, s36⟩
                                              go_simp
                                              with_reducible rfl
                                            rotate_left
                                            · simp only [Act.put, List.setIfInBounds_toArray, List.set_cons_zero, List.set_cons_succ, i64_w, i32_w]
                                              rfl
                                            refine pure_ (i := 19) (N := some 65) (v := ?_) (a' := ?_) #[true, true, true, true, true, true, true, true, true, true, true, true, true, true, true, true, true, true, true, true, false, false, false, false, false, false, false, false, false, false, false, false, false, false, false, false, false, false, false, false, false, false, false, false, false, false, false, false, false, false, false, false, false, false, false, false, false, false] rfl rfl (any_of HT_.out (by kernel_rfl)) (fun _ _ _ h => h) (Or.inl ⟨by rfl, ?_⟩) ?_ ?_
                                            rotate_left
                                            · intro w'
                                              go_simp
                                              with_reducible rfl
                                            rotate_left
                                            · simp only [Act.put, List.setIfInBounds_toArray, List.set_cons_zero, List.set_cons_succ, i64_w, i32_w]
                                              rfl
                                            refine pure_ (i := 20) (N := some 66) (v := ?_) (a' := ?_) #[true, true, true, true, true, true, true, true, true, true, true, true, true, true, true, true, true, true, true, true, true, false, false, false, false, false, false, false, false, false, false, false, false, false, false, false, false, false, false, false, false, false, false, false, false, false, false, false, false, false, false, false, false, false, false, false, false, false] rfl rfl (any_of HT_.out (by kernel_rfl)) (fun _ _ _ h => h) (Or.inl ⟨by rfl, ?_⟩) ?_ ?_
                                            rotate_left
                                            · intro w'
                                              go_simp
                                              with_reducible rfl
                                            rotate_left
                                            · simp only [Act.put, List.setIfInBounds_toArray, List.set_cons_zero, List.set_cons_succ, i64_w, i32_w]
                                              rfl
                                            refine pure_ (i := 21) (N := some 67) (v := ?_) (a' := ?_) #[true, true, true, true, true, true, true, true, true, true, true, true, true, true, true, true, true, true, true, true, true, true, false, false, false, false, false, false, false, false, false, false, false, false, false, false, false, false, false, false, false, false, false, false, false, false, false, false, false, false, false, false, false, false, false, false, false, false] rfl rfl (any_of HT_.out (by kernel_rfl)) (fun _ _ _ h => h) (Or.inl ⟨by rfl, ?_⟩) ?_ ?_
                                            rotate_left
                                            · intro w'
                                              go_simp
                                              with_reducible rfl
                                            rotate_left
                                            · simp only [Act.put, List.setIfInBounds_toArray, List.set_cons_zero, List.set_cons_succ, i64_w, i32_w]
                                              rfl
                                            refine pure_ (i := 22) (N := some 68) (v := ?_) (a' := ?_) #[true, true, true, true, true, true, true, true, true, true, true, true, true, true, true, true, true, true, true, true, true, true, true, false, false, false, false, false, false, false, false, false, false, false, false, false, false, false, false, false, false, false, false, false, false, false, false, false, false, false, false, false, false, false, false, false, false, false] rfl rfl (any_of HT_.out (by kernel_rfl)) (fun _ _ _ h => h) (Or.inl ⟨by rfl, ?_⟩) ?_ ?_
                                            rotate_left
                                            · intro w'
                                              go_simp
                                              with_reducible rfl
                                            rotate_left
                                            · simp only [Act.put, List.setIfInBounds_toArray, List.set_cons_zero, List.set_cons_succ, i64_w, i32_w]
                                              rfl
                                            refine pure_ (i := 23) (N := some 69) (v := ?_) (a' := ?_) #[true, true, true, true, true, true, true, true, true, true, true, true, true, true, true, true, true, true, true, true, true, true, true, true, false, false, false, false, false, false, false, false, false, false, false, false, false, false, false, false, false, false, false, false, false, false, false, false, false, false, false, false, false, false, false, false, false, false] rfl rfl (any_of HT_.out (by kernel_rfl)) (fun _ _ _ h => h) (Or.inl ⟨by rfl, ?_⟩) ?_ ?_
                                            rotate_left
                                            · intro w'
                                              go_simp
                                              with_reducible rfl
                                            rotate_left
                                            · simp only [Act.put, List.setIfInBounds_toArray, List.set_cons_zero, List.set_cons_succ, i64_w, i32_w]
                                              rfl
                                            refine pure_ (i := 24) (N := some 70) (v := ?_) (a' := ?_) #[true, true, true, true, true, true, true, true, true, true, true, true, true, true, true, true, true, true, true, true, true, true, true, true, true, false, false, false, false, false, false, false, false, false, false, false, false, false, false, false, false, false, false, false, false, false, false, false, false, false, false, false, false, false, false, false, false, false] rfl rfl (any_of HT_.out (by kernel_rfl)) (fun _ _ _ h => h) (Or.inl ⟨by rfl, ?_⟩) ?_ ?_
                                            rotate_left
                                            · intro w'
                                              go_simp
                                              with_reducible rfl
                                            rotate_left
                                            · simp only [Act.put, List.setIfInBounds_toArray, List.set_cons_zero, List.set_cons_succ, i64_w, i32_w]
                                              rfl
                                            refine pure_ (i := 25) (N := some 71) (v := ?_) (a' := ?_) #[true, true, true, true, true, true, true, true, true, true, true, true, true, true, true, true, true, true, true, true, true, true, true, true, true, true, false, false, false, false, false, false, false, false, false, false, false, false, false, false, false, false, false, false, false, false, false, false, false, false, false, false, false, false, false, false, false, false] rfl rfl (any_of HT_.out (by kernel_rfl)) (fun _ _ _ h => h) (Or.inl ⟨by rfl, ?_⟩) ?_ ?_
                                            rotate_left
                                            · intro w'
                                              go_simp
                                              with_reducible rfl
                                            rotate_left
                                            · simp only [Act.put, List.setIfInBounds_toArray, List.set_cons_zero, List.set_cons_succ, i64_w, i32_w]
                                              rfl
                                            refine pure_ (i := 28) (N := some 74) (v := ?_) (a' := ?_) #[true, true, true, true, true, true, true, true, true, true, true, true, true, true, true, true, true, true, true, true, true, true, true, true, true, true, false, false, true, false, false, false, false, false, false, false, false, false, false, false, false, false, false, false, false, false, false, false, false, false, false, false, false, false, false, false, false, false] rfl rfl (any_of HT_.out (by kernel_rfl)) (fun _ _ _ h => h) (Or.inl ⟨by rfl, ?_⟩) ?_ ?_
                                            rotate_left
                                            · intro w'
                                              go_simp
                                              with_reducible rfl
                                            rotate_left
                                            · simp only [Act.put, List.setIfInBounds_toArray, List.set_cons_zero, List.set_cons_succ, i64_w, i32_w]
                                              rfl
                                            refine pure_ (i := 29) (N := some 75) (v := ?_) (a' := ?_) #[true, true, true, true, true, true, true, true, true, true, true, true, true, true, true, true, true, true, true, true, true, true, true, true, true, true, false, false, true, true, false, false, false, false, false, false, false, false, false, false, false, false, false, false, false, false, false, false, false, false, false, false, false, false, false, false, false, false] rfl rfl (any_of HT_.out (by kernel_rfl)) (fun _ _ _ h => h) (Or.inl ⟨by rfl, ?_⟩) ?_ ?_
                                            rotate_left
                                            · intro w'
                                              go_simp
                                              with_reducible rfl
                                            rotate_left
                                            · simp only [Act.put, List.setIfInBounds_toArray, List.set_cons_zero, List.set_cons_succ, i64_w, i32_w]
                                              rfl
                                            refine pure_ (i := 30) (N := some 76) (v := ?_) (a' := ?_) #[true, true, true, true, true, true, true, true, true, true, true, true, true, true, true, true, true, true, true, true, true, true, true, true, true, true, false, false, true, true, true, false, false, false, false, false, false, false, false, false, false, false, false, false, false, false, false, false, false, false, false, false, false, false, false, false, false, false] rfl rfl (any_of HT_.out (by kernel_rfl)) (fun _ _ _ h => h) (Or.inl ⟨by rfl, ?_⟩) ?_ ?_
                                            rotate_left
                                            · intro w'
                                              go_simp
                                              with_reducible rfl
                                            rotate_left
                                            · simp only [Act.put, List.setIfInBounds_toArray, List.set_cons_zero, List.set_cons_succ, i64_w, i32_w]
                                              rfl
                                            refine pure_ (i := 31) (N := some 77) (v := ?_) (a' := ?_) #[true, true, true, true, true, true, true, true, true, true, true, true, true, true, true, true, true, true, true, true, true, true, true, true, true, true, false, false, true, true, true, true, false, false, false, false, false, false, false, false, false, false, false, false, false, false, false, false, false, false, false, false, false, false, false, false, false, false] rfl rfl (any_of HT_.out (by kernel_rfl)) (fun _ _ _ h => h) (Or.inl ⟨by rfl, ?_⟩) ?_ ?_
                                            rotate_left
                                            · intro w'
                                              go_simp
                                              with_reducible rfl
                                            rotate_left
                                            · simp only [Act.put, List.setIfInBounds_toArray, List.set_cons_zero, List.set_cons_succ, i64_w, i32_w]
                                              rfl
                                            refine take_ (i := 26) (N := some 72) (v := ?_) (a' := ?_) #[true, true, true, true, true, true, true, true, true, true, true, true, true, true, true, true, true, true, true, true, true, true, true, true, true, true, true, false, true, true, true, true, false, false, false, false, false, false, false, false, false, false, false, false, false, false, false, false, false, false, false, false, false, false, false, false, false, false] rfl rfl (take_ofW HT_.out HW_.out (by kernel_rfl)) (fun _ _ _ h => h) (Or.inl ⟨by rfl, ?_⟩) hHeld ?_ ?_
                                            rotate_left
                                            · rintro w' ⟨s0, s1, s2, s3, s4, s5, s6, s7, s8, s9, s10, s11, s12, s13, s14, s15, s16, s17, s18, s19, s20, s21, s22, s23, s24, s25, s26, s27, s28, s29, s30, s31, s32, s33, s34, s35, s36⟩
                                              go_simp
                                              with_reducible rfl
                                            rotate_left
                                            · simp only [Act.put, List.setIfInBounds_toArray, List.set_cons_zero, List.set_cons_succ, i64_w, i32_w]
                                              rfl
                                            refine pure_ (i := 27) (N := some 73) (v := ?_) (a' := ?_) #[true, true, true, true, true, true, true, true, true, true, true, true, true, true, true, true, true, true, true, true, true, true, true, true, true, true, true, true, true, true, true, true, false, false, false, false, false, false, false, false, false, false, false, false, false, false, false, false, false, false, false, false, false, false, false, false, false, false] rfl rfl (any_of HT_.out (by kernel_rfl)) (fun _ _ _ h => h) (Or.inl ⟨by rfl, ?_⟩) ?_ ?_
                                            rotate_left
                                            · intro w'
                                              go_simp
                                              with_reducible rfl
                                            rotate_left
                                            · simp only [Act.put, List.setIfInBounds_toArray, List.set_cons_zero, List.set_cons_succ, i64_w, i32_w]
                                              rfl
                                            refine take_ (i := 32) (N := some 78) (v := ?_) (a' := ?_) #[true, true, true, true, true, true, true, true, true, true, true, true, true, true, true, true, true, true, true, true, true, true, true, true, true, true, true, true, true, true, true, true, true, false, false, false, false, false, false, false, false, false, false, false, false, false, false, false, false, false, false, false, false, false, false, false, false, false] rfl rfl (take_ofW HT_.out HW_.out (by kernel_rfl)) (fun _ _ _ h => h) (Or.inl ⟨by rfl, ?_⟩) hHeld ?_ ?_
                                            rotate_left
                                            · rintro w' ⟨s0, s1, s2, s3, s4, s5, s6, s7, s8, s9, s10, s11, s12, s13, s14, s15, s16, s17, s18, s19, s20, s21, s22, s23, s24, s25, s26, s27, s28, s29, s30, s31, s32, s33, s34, s35, s36⟩
                                              go_simp
                                              with_reducible rfl
                                            rotate_left
                                            · simp only [Act.put, List.setIfInBounds_toArray, List.set_cons_zero, List.set_cons_succ, i64_w, i32_w]
                                              rfl
                                            refine pure_ (i := 33) (N := some 79) (v := ?_) (a' := ?_) #[true, true, true, true, true, true, true, true, true, true, true, true, true, true, true, true, true, true, true, true, true, true, true, true, true, true, true, true, true, true, true, true, true, true, false, false, false, false, false, false, false, false, false, false, false, false, false, false, false, false, false, false, false, false, false, false, false, false] rfl rfl (any_of HT_.out (by kernel_rfl)) (fun _ _ _ h => h) (Or.inl ⟨by rfl, ?_⟩) ?_ ?_
                                            rotate_left
                                            · intro w'
                                              go_simp
                                              with_reducible rfl
                                            rotate_left
                                            · simp only [Act.put, List.setIfInBounds_toArray, List.set_cons_zero, List.set_cons_succ, i64_w, i32_w]
                                              rfl
                                            refine pure_ (i := 34) (N := some 80) (v := ?_) (a' := ?_) #[true, true, true, true, true, true, true, true, true, true, true, true, true, true, true, true, true, true, true, true, true, true, true, true, true, true, true, true, true, true, true, true, true, true, true, false, false, false, false, false, false, false, false, false, false, false, false, false, false, false, false, false, false, false, false, false, false, false] rfl rfl (any_of HT_.out (by kernel_rfl)) (fun _ _ _ h => h) (Or.inl ⟨by rfl, ?_⟩) ?_ ?_
                                            rotate_left
                                            · intro w'
                                              go_simp
                                              with_reducible rfl
                                            rotate_left
                                            · simp only [Act.put, List.setIfInBounds_toArray, List.set_cons_zero, List.set_cons_succ, i64_w, i32_w]
                                              rfl
                                            refine pure_ (i := 35) (N := some 81) (v := ?_) (a' := ?_) #[true, true, true, true, true, true, true, true, true, true, true, true, true, true, true, true, true, true, true, true, true, true, true, true, true, true, true, true, true, true, true, true, true, true, true, true, false, false, false, false, false, false, false, false, false, false, false, false, false, false, false, false, false, false, false, false, false, false] rfl rfl (any_of HT_.out (by kernel_rfl)) (fun _ _ _ h => h) (Or.inl ⟨by rfl, ?_⟩) ?_ ?_
                                            rotate_left
                                            · intro w'
                                              go_simp
                                              with_reducible rfl
                                            rotate_left
                                            · simp only [Act.put, List.setIfInBounds_toArray, List.set_cons_zero, List.set_cons_succ, i64_w, i32_w]
                                              rfl
                                            refine pure_ (i := 36) (N := some 82) (v := ?_) (a' := ?_) #[true, true, true, true, true, true, true, true, true, true, true, true, true, true, true, true, true, true, true, true, true, true, true, true, true, true, true, true, true, true, true, true, true, true, true, true, true, false, false, false, false, false, false, false, false, false, false, false, false, false, false, false, false, false, false, false, false, false] rfl rfl (any_of HT_.out (by kernel_rfl)) (fun _ _ _ h => h) (Or.inl ⟨by rfl, ?_⟩) ?_ ?_
                                            rotate_left
                                            · intro w'
                                              go_simp
                                              with_reducible rfl
                                            rotate_left
                                            · simp only [Act.put, List.setIfInBounds_toArray, List.set_cons_zero, List.set_cons_succ, i64_w, i32_w]
                                              rfl
                                            refine pure_ (i := 37) (N := some 83) (v := ?_) (a' := ?_) #[true, true, true, true, true, true, true, true, true, true, true, true, true, true, true, true, true, true, true, true, true, true, true, true, true, true, true, true, true, true, true, true, true, true, true, true, true, true, false, false, false, false, false, false, false, false, false, false, false, false, false, false, false, false, false, false, false, false] rfl rfl (any_of HT_.out (by kernel_rfl)) (fun _ _ _ h => h) (Or.inl ⟨by rfl, ?_⟩) ?_ ?_
                                            rotate_left
                                            · intro w'
                                              go_simp
                                              with_reducible rfl
                                            rotate_left
                                            · simp only [Act.put, List.setIfInBounds_toArray, List.set_cons_zero, List.set_cons_succ, i64_w, i32_w]
                                              rfl
                                            refine pure_ (i := 38) (N := some 84) (v := ?_) (a' := ?_) #[true, true, true, true, true, true, true, true, true, true, true, true, true, true, true, true, true, true, true, true, true, true, true, true, true, true, true, true, true, true, true, true, true, true, true, true, true, true, true, false, false, false, false, false, false, false, false, false, false, false, false, false, false, false, false, false, false, false] rfl rfl (any_of HT_.out (by kernel_rfl)) (fun _ _ _ h => h) (Or.inl ⟨by rfl, ?_⟩) ?_ ?_
                                            rotate_left
                                            · intro w'
                                              go_simp
                                              with_reducible rfl
                                            rotate_left
                                            · simp only [Act.put, List.setIfInBounds_toArray, List.set_cons_zero, List.set_cons_succ, i64_w, i32_w]
                                              rfl
                                            refine pure_ (i := 39) (N := some 85) (v := ?_) (a' := ?_) #[true, true, true, true, true, true, true, true, true, true, true, true, true, true, true, true, true, true, true, true, true, true, true, true, true, true, true, true, true, true, true, true, true, true, true, true, true, true, true, true, false, false, false, false, false, false, false, false, false, false, false, false, false, false, false, false, false, false] rfl rfl (any_of HT_.out (by kernel_rfl)) (fun _ _ _ h => h) (Or.inl ⟨by rfl, ?_⟩) ?_ ?_
                                            rotate_left
                                            · intro w'
                                              go_simp
                                              with_reducible rfl
                                            rotate_left
                                            · simp only [Act.put, List.setIfInBounds_toArray, List.set_cons_zero, List.set_cons_succ, i64_w, i32_w]
                                              rfl
                                            refine pure_ (i := 40) (N := some 86) (v := ?_) (a' := ?_) #[true, true, true, true, true, true, true, true, true, true, true, true, true, true, true, true, true, true, true, true, true, true, true, true, true, true, true, true, true, true, true, true, true, true, true, true, true, true, true, true, true, false, false, false, false, false, false, false, false, false, false, false, false, false, false, false, false, false] rfl rfl (any_of HT_.out (by kernel_rfl)) (fun _ _ _ h => h) (Or.inl ⟨by rfl, ?_⟩) ?_ ?_
                                            rotate_left
                                            · intro w'
                                              go_simp
                                              with_reducible rfl
                                            rotate_left
                                            · simp only [Act.put, List.setIfInBounds_toArray, List.set_cons_zero, List.set_cons_succ, i64_w, i32_w]
                                              rfl
                                            refine pure_ (i := 42) (N := some 88) (v := ?_) (a' := ?_) #[true, true, true, true, true, true, true, true, true, true, true, true, true, true, true, true, true, true, true, true, true, true, true, true, true, true, true, true, true, true, true, true, true, true, true, true, true, true, true, true, true, false, true, false, false, false, false, false, false, false, false, false, false, false, false, false, false, false] rfl rfl (any_of HT_.out (by kernel_rfl)) (fun _ _ _ h => h) (Or.inl ⟨by rfl, ?_⟩) ?_ ?_
                                            rotate_left
                                            · intro w'
                                              go_simp
                                              with_reducible rfl
                                            rotate_left
                                            · simp only [Act.put, List.setIfInBounds_toArray, List.set_cons_zero, List.set_cons_succ, i64_w, i32_w]
                                              rfl
                                            refine pure_ (i := 43) (N := some 89) (v := ?_) (a' := ?_) #[true, true, true, true, true, true, true, true, true, true, true, true, true, true, true, true, true, true, true, true, true, true, true, true, true, true, true, true, true, true, true, true, true, true, true, true, true, true, true, true, true, false, true, true, false, false, false, false, false, false, false, false, false, false, false, false, false, false] rfl rfl (any_of HT_.out (by kernel_rfl)) (fun _ _ _ h => h) (Or.inl ⟨by rfl, ?_⟩) ?_ ?_
                                            rotate_left
                                            · intro w'
                                              go_simp
                                              with_reducible rfl
                                            rotate_left
                                            · simp only [Act.put, List.setIfInBounds_toArray, List.set_cons_zero, List.set_cons_succ, i64_w, i32_w]
                                              rfl
                                            refine pure_ (i := 44) (N := some 90) (v := ?_) (a' := ?_) #[true, true, true, true, true, true, true, true, true, true, true, true, true, true, true, true, true, true, true, true, true, true, true, true, true, true, true, true, true, true, true, true, true, true, true, true, true, true, true, true, true, false, true, true, true, false, false, false, false, false, false, false, false, false, false, false, false, false] rfl rfl (any_of HT_.out (by kernel_rfl)) (fun _ _ _ h => h) (Or.inl ⟨by rfl, ?_⟩) ?_ ?_
                                            rotate_left
                                            · intro w'
                                              go_simp
                                              with_reducible rfl
                                            rotate_left
                                            · simp only [Act.put, List.setIfInBounds_toArray, List.set_cons_zero, List.set_cons_succ, i64_w, i32_w]
                                              rfl
                                            refine pure_ (i := 45) (N := some 91) (v := ?_) (a' := ?_) #[true, true, true, true, true, true, true, true, true, true, true, true, true, true, true, true, true, true, true, true, true, true, true, true, true, true, true, true, true, true, true, true, true, true, true, true, true, true, true, true, true, false, true, true, true, true, false, false, false, false, false, false, false, false, false, false, false, false] rfl rfl (any_of HT_.out (by kernel_rfl)) (fun _ _ _ h => h) (Or.inl ⟨by rfl, ?_⟩) ?_ ?_
                                            rotate_left
                                            · intro w'
                                              go_simp
                                              with_reducible rfl
                                            rotate_left
                                            · simp only [Act.put, List.setIfInBounds_toArray, List.set_cons_zero, List.set_cons_succ, i64_w, i32_w]
                                              rfl
                                            refine pure_ (i := 50) (N := some 96) (v := ?_) (a' := ?_) #[true, true, true, true, true, true, true, true, true, true, true, true, true, true, true, true, true, true, true, true, true, true, true, true, true, true, true, true, true, true, true, true, true, true, true, true, true, true, true, true, true, false, true, true, true, true, false, false, false, false, true, false, false, false, false, false, false, false] rfl rfl (any_of HT_.out (by kernel_rfl)) (fun _ _ _ h => h) (Or.inl ⟨by rfl, ?_⟩) ?_ ?_
                                            rotate_left
                                            · intro w'
                                              go_simp
                                              with_reducible rfl
                                            rotate_left
                                            · simp only [Act.put, List.setIfInBounds_toArray, List.set_cons_zero, List.set_cons_succ, i64_w, i32_w]
                                              rfl
                                            refine pure_ (i := 51) (N := some 97) (v := ?_) (a' := ?_) #[true, true, true, true, true, true, true, true, true, true, true, true, true, true, true, true, true, true, true, true, true, true, true, true, true, true, true, true, true, true, true, true, true, true, true, true, true, true, true, true, true, false, true, true, true, true, false, false, false, false, true, true, false, false, false, false, false, false] rfl rfl (any_of HT_.out (by kernel_rfl)) (fun _ _ _ h => h) (Or.inl ⟨by rfl, ?_⟩) ?_ ?_
                                            rotate_left
                                            · intro w'
                                              go_simp
                                              with_reducible rfl
                                            rotate_left
                                            · simp only [Act.put, List.setIfInBounds_toArray, List.set_cons_zero, List.set_cons_succ, i64_w, i32_w]
                                              rfl
                                            refine pure_ (i := 52) (N := some 98) (v := ?_) (a' := ?_) #[true, true, true, true, true, true, true, true, true, true, true, true, true, true, true, true, true, true, true, true, true, true, true, true, true, true, true, true, true, true, true, true, true, true, true, true, true, true, true, true, true, false, true, true, true, true, false, false, false, false, true, true, true, false, false, false, false, false] rfl rfl (any_of HT_.out (by kernel_rfl)) (fun _ _ _ h => h) (Or.inl ⟨by rfl, ?_⟩) ?_ ?_
                                            rotate_left
                                            · intro w'
                                              go_simp
                                              with_reducible rfl
                                            rotate_left
                                            · simp only [Act.put, List.setIfInBounds_toArray, List.set_cons_zero, List.set_cons_succ, i64_w, i32_w]
                                              rfl
                                            refine pure_ (i := 53) (N := some 99) (v := ?_) (a' := ?_) #[true, true, true, true, true, true, true, true, true, true, true, true, true, true, true, true, true, true, true, true, true, true, true, true, true, true, true, true, true, true, true, true, true, true, true, true, true, true, true, true, true, false, true, true, true, true, false, false, false, false, true, true, true, true, false, false, false, false] rfl rfl (any_of HT_.out (by kernel_rfl)) (fun _ _ _ h => h) (Or.inl ⟨by rfl, ?_⟩) ?_ ?_
                                            rotate_left
                                            · intro w'
                                              go_simp
                                              with_reducible rfl
                                            rotate_left
                                            · simp only [Act.put, List.setIfInBounds_toArray, List.set_cons_zero, List.set_cons_succ, i64_w, i32_w]
                                              rfl
                                            refine take_ (i := 41) (N := some 87) (v := ?_) (a' := ?_) #[true, true, true, true, true, true, true, true, true, true, true, true, true, true, true, true, true, true, true, true, true, true, true, true, true, true, true, true, true, true, true, true, true, true, true, true, true, true, true, true, true, true, true, true, true, true, false, false, false, false, true, true, true, true, false, false, false, false] rfl rfl (take_ofW HT_.out HW_.out (by kernel_rfl)) (fun _ _ _ h => h) (Or.inl ⟨by rfl, ?_⟩) hHeld ?_ ?_
                                            rotate_left
                                            · rintro w' ⟨s0, s1, s2, s3, s4, s5, s6, s7, s8, s9, s10, s11, s12, s13, s14, s15, s16, s17, s18, s19, s20, s21, s22, s23, s24, s25, s26, s27, s28, s29, s30, s31, s32, s33, s34, s35, s36⟩
                                              go_simp
                                              with_reducible rfl
                                            rotate_left
                                            · simp only [Act.put, List.setIfInBounds_toArray, List.set_cons_zero, List.set_cons_succ, i64_w, i32_w]
                                              rfl
                                            refine take_ (i := 46) (N := some 92) (v := ?_) (a' := ?_) #[true, true, true, true, true, true, true, true, true, true, true, true, true, true, true, true, true, true, true, true, true, true, true, true, true, true, true, true, true, true, true, true, true, true, true, true, true, true, true, true, true, true, true, true, true, true, true, false, false, false, true, true, true, true, false, false, false, false] rfl rfl (take_ofW HT_.out HW_.out (by kernel_rfl)) (fun _ _ _ h => h) (Or.inl ⟨by rfl, ?_⟩) hHeld ?_ ?_
                                            rotate_left
                                            · rintro w' ⟨s0, s1, s2, s3, s4, s5, s6, s7, s8, s9, s10, s11, s12, s13, s14, s15, s16, s17, s18, s19, s20, s21, s22, s23, s24, s25, s26, s27, s28, s29, s30, s31, s32, s33, s34, s35, s36⟩
                                              go_simp
                                              with_reducible rfl
                                            rotate_left
                                            · simp only [Act.put, List.setIfInBounds_toArray, List.set_cons_zero, List.set_cons_succ, i64_w, i32_w]
                                              rfl
                                            refine pure_ (i := 47) (N := some 93) (v := ?_) (a' := ?_) #[true, true, true, true, true, true, true, true, true, true, true, true, true, true, true, true, true, true, true, true, true, true, true, true, true, true, true, true, true, true, true, true, true, true, true, true, true, true, true, true, true, true, true, true, true, true, true, true, false, false, true, true, true, true, false, false, false, false] rfl rfl (any_of HT_.out (by kernel_rfl)) (fun _ _ _ h => h) (Or.inl ⟨by rfl, ?_⟩) ?_ ?_
                                            rotate_left
                                            · intro w'
                                              go_simp
                                              with_reducible rfl
                                            rotate_left
                                            · simp only [Act.put, List.setIfInBounds_toArray, List.set_cons_zero, List.set_cons_succ, i64_w, i32_w]
                                              rfl
                                            refine pure_ (i := 48) (N := some 94) (v := ?_) (a' := ?_) #[true, true, true, true, true, true, true, true, true, true, true, true, true, true, true, true, true, true, true, true, true, true, true, true, true, true, true, true, true, true, true, true, true, true, true, true, true, true, true, true, true, true, true, true, true, true, true, true, true, false, true, true, true, true, false, false, false, false] rfl rfl (any_of HT_.out (by kernel_rfl)) (fun _ _ _ h => h) (Or.inl ⟨by rfl, ?_⟩) ?_ ?_
                                            rotate_left
                                            · intro w'
                                              go_simp
                                              with_reducible rfl
                                            rotate_left
                                            · simp only [Act.put, List.setIfInBounds_toArray, List.set_cons_zero, List.set_cons_succ, i64_w, i32_w]
                                              rfl
                                            refine take_ (i := 49) (N := some 95) (v := ?_) (a' := ?_) #[true, true, true, true, true, true, true, true, true, true, true, true, true, true, true, true, true, true, true, true, true, true, true, true, true, true, true, true, true, true, true, true, true, true, true, true, true, true, true, true, true, true, true, true, true, true, true, true, true, true, true, true, true, true, false, false, false, false] rfl rfl (take_ofW HT_.out HW_.out (by kernel_rfl)) (fun _ _ _ h => h) (Or.inl ⟨by rfl, ?_⟩) hHeld ?_ ?_
                                            rotate_left
                                            · rintro w' ⟨s0, s1, s2, s3, s4, s5, s6, s7, s8, s9, s10, s11, s12, s13, s14, s15, s16, s17, s18, s19, s20, s21, s22, s23, s24, s25, s26, s27, s28, s29, s30, s31, s32, s33, s34, s35, s36⟩
                                              go_simp
                                              with_reducible rfl
                                            rotate_left
                                            · simp only [Act.put, List.setIfInBounds_toArray, List.set_cons_zero, List.set_cons_succ, i64_w, i32_w]
                                              rfl
                                            refine take_ (i := 54) (N := some 100) (v := ?_) (a' := ?_) #[true, true, true, true, true, true, true, true, true, true, true, true, true, true, true, true, true, true, true, true, true, true, true, true, true, true, true, true, true, true, true, true, true, true, true, true, true, true, true, true, true, true, true, true, true, true, true, true, true, true, true, true, true, true, true, false, false, false] rfl rfl (take_ofW HT_.out HW_.out (by kernel_rfl)) (fun _ _ _ h => h) (Or.inl ⟨by rfl, ?_⟩) hHeld ?_ ?_
                                            rotate_left
                                            · rintro w' ⟨s0, s1, s2, s3, s4, s5, s6, s7, s8, s9, s10, s11, s12, s13, s14, s15, s16, s17, s18, s19, s20, s21, s22, s23, s24, s25, s26, s27, s28, s29, s30, s31, s32, s33, s34, s35, s36⟩
                                              go_simp
                                              with_reducible rfl
                                            rotate_left
                                            · simp only [Act.put, List.setIfInBounds_toArray, List.set_cons_zero, List.set_cons_succ, i64_w, i32_w]
                                              rfl
                                            refine take_ (i := 55) (N := some 101) (v := ?_) (a' := ?_) #[true, true, true, true, true, true, true, true, true, true, true, true, true, true, true, true, true, true, true, true, true, true, true, true, true, true, true, true, true, true, true, true, true, true, true, true, true, true, true, true, true, true, true, true, true, true, true, true, true, true, true, true, true, true, true, true, false, false] rfl rfl (take_ofW HT_.out HW_.out (by kernel_rfl)) (fun _ _ _ h => h) (Or.inl ⟨by rfl, ?_⟩) hHeld ?_ ?_
                                            rotate_left
                                            · rintro w' ⟨s0, s1, s2, s3, s4, s5, s6, s7, s8, s9, s10, s11, s12, s13, s14, s15, s16, s17, s18, s19, s20, s21, s22, s23, s24, s25, s26, s27, s28, s29, s30, s31, s32, s33, s34, s35, s36⟩
                                              go_simp
                                              with_reducible rfl
                                            rotate_left
                                            · simp only [Act.put, List.setIfInBounds_toArray, List.set_cons_zero, List.set_cons_succ, i64_w, i32_w]
                                              rfl
                                            refine pure_ (i := 56) (N := some 102) (v := ?_) (a' := ?_) #[true, true, true, true, true, true, true, true, true, true, true, true, true, true, true, true, true, true, true, true, true, true, true, true, true, true, true, true, true, true, true, true, true, true, true, true, true, true, true, true, true, true, true, true, true, true, true, true, true, true, true, true, true, true, true, true, true, false] rfl rfl (any_of HT_.out (by kernel_rfl)) (fun _ _ _ h => h) (Or.inl ⟨by rfl, ?_⟩) ?_ ?_
                                            rotate_left
                                            · intro w'
                                              go_simp
                                              with_reducible rfl
                                            rotate_left
                                            · simp only [Act.put, List.setIfInBounds_toArray, List.set_cons_zero, List.set_cons_succ, i64_w, i32_w]
                                              rfl
                                            refine pure_ (i := 57) (N := some 103) (v := ?_) (a' := ?_) #[true, true, true, true, true, true, true, true, true, true, true, true, true, true, true, true, true, true, true, true, true, true, true, true, true, true, true, true, true, true, true, true, true, true, true, true, true, true, true, true, true, true, true, true, true, true, true, true, true, true, true, true, true, true, true, true, true, true] rfl rfl (any_of HT_.out (by kernel_rfl)) (fun _ _ _ h => h) (Or.inl ⟨by rfl, ?_⟩) ?_ ?_
                                            rotate_left
                                            · intro w'
                                              go_simp
                                              with_reducible rfl
                                            rotate_left
                                            · simp only [Act.put, List.setIfInBounds_toArray, List.set_cons_zero, List.set_cons_succ, i64_w, i32_w]
                                              rfl
                                            refine done_ (done_of HT_.out (by kernel_rfl)) ?_
                                            try go_wp2
                                            go_meet
                                            case rel => exact ⟨_, (by first | exact H' | ((try rw [hji8]); exact H')), ⟨by have := HK1.out; first | omega | exact Nat.le_refl _⟩, ⟨by (with_reducible repeat (first | apply Kd.S_alloc | apply Kd.S_drewN | apply Kd.S_drew)); exact HO_6.out⟩, ⟨by (with_reducible repeat (first | apply Kd.S_alloc | apply Kd.S_drewN | apply Kd.S_drew)); exact HO_7.out⟩, ⟨by repeat (first | (with_reducible first | exact HB.out | apply below_alloc | apply pw_below_drewN | apply below_drew1) | exact HB.out)⟩⟩
                                        · rw [if_neg c34] at H
                                          have c34b0 : ((strOfNums y216).toList == (strOfNums ((rd_T26 t204 x34_1).f4)).toList) = false := beq_eq_false_iff_ne.mpr c34
                                          have c34b1 : ((strOfNums y216).toList != (strOfNums ((rd_T26 t204 x34_1).f4)).toList) = true := bne_iff_ne.mpr c34
                                          exact absurd H (by simp)
                                      · rw [if_neg c33] at H
                                        exact absurd H (by simp)
                                    · rw [if_neg c32] at H
                                      exact absurd H (by simp)
                                · rw [if_neg c30] at H
                                  have c30b0 : (((rd_T26 t200 x34_1).f0) == 4) = false := beq_eq_false_iff_ne.mpr c30
                                  have c30b1 : (((rd_T26 t200 x34_1).f0) != 4) = true := bne_iff_ne.mpr c30
                                  exact absurd H (by simp)
                              · rw [if_neg c29] at H
                                have c29b0 : (((rd_T26 t204 x34_1).f0) == 4) = false := beq_eq_false_iff_ne.mpr c29
                                have c29b1 : (((rd_T26 t204 x34_1).f0) != 4) = true := bne_iff_ne.mpr c29
                                exact absurd H (by simp)
                            · rw [if_neg c28] at H
                              have c28b0 : (x34_1 == (wrap64 ((t204.length : Int) - 1))) = false := beq_eq_false_iff_ne.mpr c28
                              have c28b1 : (x34_1 != (wrap64 ((t204.length : Int) - 1))) = true := bne_iff_ne.mpr c28
                              exact absurd H (by simp)
                        · rw [if_neg c23] at H
                          exact absurd H (by simp)
                      · rw [if_neg c22] at H
                        exact absurd H (by simp)
                    · rw [if_neg c21] at H
                      exact absurd H (by simp)
                  case rest =>
                    clear HC20
                    try clear c2
                    try clear p2
                    try clear q2
                    try clear hx2
                    try clear c3
                    try clear q3
                    try clear hcv3
                    try clear hcv4
                    try clear p6
                    try clear c21
                    try clear p21
                    try clear q21
                    try clear hx21
                    try clear c22
                    try clear p22
                    try clear q22
                    try clear hx22
                    try clear c23
                    try clear c28
                    try clear c28b0
                    try clear c28b1
                    try clear c29
                    try clear c29b0
                    try clear c29b1
                    try clear c30
                    try clear c30b0
                    try clear c30b1
                    try clear c32
                    try clear c33
                    try clear c34
                    try clear c34b0
                    try clear c34b1
                    try clear q38
                    try clear hcv39
                    try clear hcv40
                    try clear hx210_0
                    try clear hx210_1
                    try clear hx210_2
                    try clear hx210_3
                    try clear hx210_4
                    try clear hx211_0
                    try clear hx211_1
                    try clear hx211_2
                    try clear hx211_3
                    try clear hx211_4
                    try clear hx212_0
                    try clear hx212_1
                    try clear hx212_2
                    try clear hx212_3
                    try clear hx212_4
                    try clear hx213_0
                    try clear hx213_1
                    try clear hx213_2
                    try clear hx213_3
                    try clear hx213_4
                    try clear hx214_0
                    try clear hx214_1
                    try clear hx214_2
                    try clear hx214_3
                    try clear hx214_4
                    try clear hx215_0
                    try clear hx215_1
                    try clear hx215_2
                    try clear hx215_3
                    try clear hx215_4
                    try clear hx220_0
                    try clear hx220_1
                    try clear hx220_2
                    try clear hx220_3
                    try clear hx220_4
                    try clear p213
                    try clear p214
                    try clear p215
                    try clear p220
                    try clear q213
                    try clear q214
                    try clear q215
                    try clear q220
                    try clear q38
                    obtain ⟨kq, HA, HJ19, HO_6, HO_7, HB⟩ := hcut
                    cases kq with
                    | zero => exact absurd HA.out (by simp [darninglaw23_CodeCut.j1])
                    | succ kj19 =>
                      have H := HA.out
                      clear HA
                      simp only [darninglaw23_CodeCut.j1] at H
                      as_aux_lemma =>
                        have H' := Aside0.mk H
                        clear H
                        go_wp2
                        go_roundg kj19
                        case measure => have := HK1.out; have := HJ19.out; omega
                        case rel => exact ⟨(wrap64 (x34_1 + 1)), (by first | rfl | (simp; done) | (simp [*]; done)), (by first | exact H' | ((try rw [hji8]); exact H')), ⟨by have := HK1.out; have := HJ19.out; omega⟩, ⟨by (with_reducible repeat (first | apply Kd.S_alloc | apply Kd.S_drewN | apply Kd.S_drew)); exact HO_6.out⟩, ⟨by (with_reducible repeat (first | apply Kd.S_alloc | apply Kd.S_drewN | apply Kd.S_drew)); exact HO_7.out⟩, ⟨by repeat (first | (with_reducible first | exact HB.out | apply below_alloc | apply pw_below_drewN | apply below_drew1) | exact HB.out)⟩⟩
                · rw [if_neg c19] at H
                  have c19b0 : decide (x34_1 < (t204.length : Int)) = false := decide_eq_false c19
                  clear c19
                  replace H := Option.bind_eq_some_iff.mp H
                  obtain ⟨t221, A420, H⟩ := H
                  replace H : (some t221) = some true := H
                  have A42 := Aside0.mk A420
                  clear A420
                  as_aux_lemma =>
                    obtain rfl : t221 = true := Option.some.inj H
                    go_wp2_with (first | ((with_reducible refine gate_callee (f := 13) rfl ?_); refine goesL_ (some 105) rfl rfl Try.func13 (by kernel_rfl) rfl #[] rfl (by (try simp only [List.map_toArray, List.map_cons, List.map_nil]); first | done | rfl | (simp only [List.length_drop, List.length_take]; rfl)) ?_; (with_reducible refine (darninglaw23_awake.calls k1  true _ A42.out).mono ?_); rintro e w43 ⟨rfl, hb⟩; refine ⟨_, rfl, ?_⟩; have n0_ := Aside0.mk (Kd.S_below (by (with_reducible repeat (first | apply Kd.S_alloc | apply Kd.S_drewN | apply Kd.S_drew)); exact HO_6.out) hb); have n1_ := Aside0.mk (Kd.S_below (by (with_reducible repeat (first | apply Kd.S_alloc | apply Kd.S_drewN | apply Kd.S_drew)); exact HO_7.out) hb); have n2_ := Aside0.mk (below_step (by repeat (first | (with_reducible first | exact HB.out | apply below_alloc | apply pw_below_drewN | apply below_drew1) | exact HB.out)) hb); clear HO_6; clear HO_7; clear HB; have HO_6 := n0_; have HO_7 := n1_; have HB := n2_; clear n0_ n1_ n2_; (try clear hb); (try clear hb2); (try clear hk); (try clear hi)))
                    go_ret
                    exact ⟨by first | rfl | (rw [HRA_.out]) | (simp only [HRA_.out]; done) | (simp only [← HRA_.out]; done) | (have HR_ := HRA_.out; simp_all) | (simp [errW_none, errW_some] <;> rfl) | (simp only [← hji8]; first | rfl | (simp [errW_none, errW_some] <;> rfl)) | (simp [*, errW_none, errW_some] <;> rfl), by repeat (first | (with_reducible first | exact HB.out | apply below_alloc | apply pw_below_drewN | apply below_drew1) | exact HB.out)⟩
        · rw [if_neg c10] at H
          exact absurd H (by simp)
      · rw [if_neg c9] at H
        exact absurd H (by simp)

/-- THE ONE PURE STATEMENT of darninglaw23_CodeCut: yours. -/
def darninglaw23_CodeCut.Pure : Prop := ∀ (l0 : List Int) (a1 : Int), l0.length ≤ maxLen → l0.length * 1 ≤ 140737488351232 → (∀ x ∈ l0, (Lit.int .u8 x).wf = true) → (Lit.int .i64 a1).wf = true → ∃ k, darninglaw23_CodeCut.f k l0 a1 = some true
theorem darninglaw23_CodeCut.walk (P : darninglaw23_CodeCut.Pure) (a0 : Option Addr) (len0 cap0 : Nat) (z0 : List Int) (a1 : Int) (w : World) (w0 : (a0 = none ∧ len0 = 0 ∧ cap0 = 0 ∧ z0 = []) ∨ ∃ x, a0 = some x ∧ len0 ≤ cap0 ∧ cap0 ≤ maxLen ∧ z0.length = cap0 ∧ (∀ i, i < z0.length → w.cell? (x.add i) = some (.int .u8 (z0.getD i 0))) ∧ ∀ n ∈ z0, (Lit.int .u8 n).wf = true) (y0 : len0 * 1 ≤ 140737488351232) (w1 : (Lit.int .i64 a1).wf = true) :
    Calls Try.prog 7 #[.slice a0 len0 cap0, .int .i64 a1] w fun e w' => e = .returned (.bool true) ∧ Below w.heap.size w w' := by
  obtain ⟨l0, rfl, hr0, hm0, hw0, hc0⟩ := ReadsInt.ofRowC w0
  obtain ⟨k, h⟩ := P l0 a1 hm0 y0 hw0 w1
  refine (darninglaw23_CodeCut.calls k _ _ l0 a1 w (Kd.C_of_reads (d := (0 : Int)) (h1 := fun _ => rfl) hr0) hc0 h).mono ?_
  rintro e w' ⟨rfl, hd⟩
  exact ⟨rfl, hd⟩

end Go.Proofs.Ytfgggmojdefidaa.XCodeCut
